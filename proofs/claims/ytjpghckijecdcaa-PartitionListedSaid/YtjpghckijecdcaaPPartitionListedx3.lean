-- by hp.py of this repo, over the kit's print: Lean checks it
import Derived.Test.YtjpghckijecdcaaPPartitionListedx0
import Derived.Test.YtjpghckijecdcaaPPartitionListedx1
import Derived.Test.YtjpghckijecdcaaPPartitionListedx2
namespace Go.Proofs.Ytjpghckijecdcaa.PPartitionListed
open Go.RowKit Go.Proofs.YtjpghckijecdcaaH Go.Proofs.YtjpghckijecdcaaW.PrintWords Go.Proofs.YtjpghckijecdcaaW.PrintLast Go.Proofs.YtjpghckijecdcaaW.PrintMore
attribute [local go_sem] max2_int min2_int max_two min_two max_three min_three max_four min_four   -- for this text's walks alone
set_option linter.unusedVariables false
set_option linter.unusedSimpArgs false

/-! ### semigrouplaw03_PartitionListed: function 9 -/
mutual
def semigrouplaw03_PartitionListed.j0 : Nat → List Int → Bool → Option (Bool)
  | 0, _, _ => none
  | k + 1, x0, x14 => if x14 = true then ((semigrouplaw03_awake.f k).bind fun t141 => (some t141)) else ((partition_All.f k (x0.length : Int)).bind fun t142 => (semigrouplaw03_PartitionListed.l0 k x0 0 t142 t142 (t142.length : Int) 0))
def semigrouplaw03_PartitionListed.l0 : Nat → List Int → Int → List (List Int) → List (List Int) → Int → Int → Option (Bool)
  | 0, _, _, _, _, _, _ => none
  | k + 1, x0, x3, x4, x19, x20, x21 => if x21 < x20 then (if 0 ≤ x21 then (if x21 < (x19.length : Int) then (if x21 > 0 then (if 0 ≤ (wrap64 (x21 - 1)) then (if (wrap64 (x21 - 1)) < (x4.length : Int) then ((semigroupref03_Less.f k (rd_L1 x4 (wrap64 (x21 - 1))) (rd_L1 x19 x21)).bind fun t148 => (if t148 = true then ((partition_Valid.f k (rd_L1 x19 x21)).bind fun t149 => (if t149 = true then (semigrouplaw03_PartitionListed.j2 k x0 x3 x4 (rd_L1 x19 x21) x19 x20 x21 (((rd_L1 x19 x21).length : Int) != (x0.length : Int))) else (semigrouplaw03_PartitionListed.j2 k x0 x3 x4 (rd_L1 x19 x21) x19 x20 x21 true))) else (semigrouplaw03_PartitionListed.j2 k x0 x3 x4 (rd_L1 x19 x21) x19 x20 x21 true))) else (none)) else (none)) else ((partition_Valid.f k (rd_L1 x19 x21)).bind fun t150 => (if t150 = true then (semigrouplaw03_PartitionListed.j2 k x0 x3 x4 (rd_L1 x19 x21) x19 x20 x21 (((rd_L1 x19 x21).length : Int) != (x0.length : Int))) else (semigrouplaw03_PartitionListed.j2 k x0 x3 x4 (rd_L1 x19 x21) x19 x20 x21 true)))) else (none)) else (none)) else (if x3 = 1 then ((semigrouplaw03_awake.f k).bind fun t145 => (some t145)) else (some false))
def semigrouplaw03_PartitionListed.j2 : Nat → List Int → Int → List (List Int) → List Int → List (List Int) → Int → Int → Bool → Option (Bool)
  | 0, _, _, _, _, _, _, _, _ => none
  | k + 1, x0, x3, x4, x6, x19, x20, x21, x49 => if x49 = true then (some false) else ((semigroupref03_Same.f k x0 x6).bind fun t151 => (if t151 = true then (semigrouplaw03_PartitionListed.l0 k x0 (wrap64 (x3 + 1)) x4 x19 x20 (wrap64 (x21 + 1))) else (semigrouplaw03_PartitionListed.l0 k x0 x3 x4 x19 x20 (wrap64 (x21 + 1)))))
end
def semigrouplaw03_PartitionListed.f (k : Nat) (l0 : List Int) : Option (Bool) := (semigroupref03_Valid.f k l0).bind fun t140 => (if t140 = true then (semigrouplaw03_PartitionListed.j0 k l0 (decide ((l0.length : Int) > 6))) else (semigrouplaw03_PartitionListed.j0 k l0 true))
theorem semigrouplaw03_PartitionListed.mono_l : ∀ k, (∀ y0 y1, LeO (semigrouplaw03_PartitionListed.j0 k y0 y1) (semigrouplaw03_PartitionListed.j0 (k + 1) y0 y1)) ∧ (∀ y0 y1 y2 y3 y4 y5, LeO (semigrouplaw03_PartitionListed.l0 k y0 y1 y2 y3 y4 y5) (semigrouplaw03_PartitionListed.l0 (k + 1) y0 y1 y2 y3 y4 y5)) ∧ (∀ y0 y1 y2 y3 y4 y5 y6 y7, LeO (semigrouplaw03_PartitionListed.j2 k y0 y1 y2 y3 y4 y5 y6 y7) (semigrouplaw03_PartitionListed.j2 (k + 1) y0 y1 y2 y3 y4 y5 y6 y7))
  | 0 => ⟨fun _ _ r h => by simp [semigrouplaw03_PartitionListed.j0] at h, fun _ _ _ _ _ _ r h => by simp [semigrouplaw03_PartitionListed.l0] at h, fun _ _ _ _ _ _ _ _ r h => by simp [semigrouplaw03_PartitionListed.j2] at h⟩
  | k + 1 => by
    obtain ⟨ih0, ih1, ih2⟩ := semigrouplaw03_PartitionListed.mono_l k
    refine ⟨?_, ?_, ?_⟩
    · intro y0 y1
      unfold semigrouplaw03_PartitionListed.j0
      repeat' first
      | (with_reducible exact ih0 _ _)
      | (with_reducible exact ih1 _ _ _ _ _ _)
      | (with_reducible exact ih2 _ _ _ _ _ _ _ _)
      | (with_reducible exact partition_All.mono _ _)
      | (with_reducible exact partition_Valid.mono _ _)
      | (with_reducible exact semigrouplaw03_awake.mono _)
      | (with_reducible exact semigroupref03_Less.mono _ _ _)
      | (with_reducible exact semigroupref03_Same.mono _ _ _)
      | (with_reducible exact semigroupref03_Valid.mono _ _)
      | (with_reducible exact LeO.refl _)
      | (with_reducible exact LeO.none _)
      | (with_reducible refine LeO.ite ?_ ?_)
      | (with_reducible refine LeO.bind ?_ (fun _ => ?_))
      | exact ih0 _ _
      | exact ih1 _ _ _ _ _ _
      | exact ih2 _ _ _ _ _ _ _ _
      | exact partition_All.mono _ _
      | exact partition_Valid.mono _ _
      | exact semigrouplaw03_awake.mono _
      | exact semigroupref03_Less.mono _ _ _
      | exact semigroupref03_Same.mono _ _ _
      | exact semigroupref03_Valid.mono _ _
      | exact LeO.none _
      | refine LeO.ite ?_ ?_
      | refine LeO.bind ?_ (fun _ => ?_)
    · intro y0 y1 y2 y3 y4 y5
      unfold semigrouplaw03_PartitionListed.l0
      repeat' first
      | (with_reducible exact ih0 _ _)
      | (with_reducible exact ih1 _ _ _ _ _ _)
      | (with_reducible exact ih2 _ _ _ _ _ _ _ _)
      | (with_reducible exact partition_All.mono _ _)
      | (with_reducible exact partition_Valid.mono _ _)
      | (with_reducible exact semigrouplaw03_awake.mono _)
      | (with_reducible exact semigroupref03_Less.mono _ _ _)
      | (with_reducible exact semigroupref03_Same.mono _ _ _)
      | (with_reducible exact semigroupref03_Valid.mono _ _)
      | (with_reducible exact LeO.refl _)
      | (with_reducible exact LeO.none _)
      | (with_reducible refine LeO.ite ?_ ?_)
      | (with_reducible refine LeO.bind ?_ (fun _ => ?_))
      | exact ih0 _ _
      | exact ih1 _ _ _ _ _ _
      | exact ih2 _ _ _ _ _ _ _ _
      | exact partition_All.mono _ _
      | exact partition_Valid.mono _ _
      | exact semigrouplaw03_awake.mono _
      | exact semigroupref03_Less.mono _ _ _
      | exact semigroupref03_Same.mono _ _ _
      | exact semigroupref03_Valid.mono _ _
      | exact LeO.none _
      | refine LeO.ite ?_ ?_
      | refine LeO.bind ?_ (fun _ => ?_)
    · intro y0 y1 y2 y3 y4 y5 y6 y7
      unfold semigrouplaw03_PartitionListed.j2
      repeat' first
      | (with_reducible exact ih0 _ _)
      | (with_reducible exact ih1 _ _ _ _ _ _)
      | (with_reducible exact ih2 _ _ _ _ _ _ _ _)
      | (with_reducible exact partition_All.mono _ _)
      | (with_reducible exact partition_Valid.mono _ _)
      | (with_reducible exact semigrouplaw03_awake.mono _)
      | (with_reducible exact semigroupref03_Less.mono _ _ _)
      | (with_reducible exact semigroupref03_Same.mono _ _ _)
      | (with_reducible exact semigroupref03_Valid.mono _ _)
      | (with_reducible exact LeO.refl _)
      | (with_reducible exact LeO.none _)
      | (with_reducible refine LeO.ite ?_ ?_)
      | (with_reducible refine LeO.bind ?_ (fun _ => ?_))
      | exact ih0 _ _
      | exact ih1 _ _ _ _ _ _
      | exact ih2 _ _ _ _ _ _ _ _
      | exact partition_All.mono _ _
      | exact partition_Valid.mono _ _
      | exact semigrouplaw03_awake.mono _
      | exact semigroupref03_Less.mono _ _ _
      | exact semigroupref03_Same.mono _ _ _
      | exact semigroupref03_Valid.mono _ _
      | exact LeO.none _
      | refine LeO.ite ?_ ?_
      | refine LeO.bind ?_ (fun _ => ?_)
theorem semigrouplaw03_PartitionListed.mono : ∀ a0 k, LeO (semigrouplaw03_PartitionListed.f k a0) (semigrouplaw03_PartitionListed.f (k + 1) a0) := by
  intro a0 k
  obtain ⟨ih0, ih1, ih2⟩ := semigrouplaw03_PartitionListed.mono_l k
  unfold semigrouplaw03_PartitionListed.f
  repeat' first
      | (with_reducible exact ih0 _ _)
      | (with_reducible exact ih1 _ _ _ _ _ _)
      | (with_reducible exact ih2 _ _ _ _ _ _ _ _)
      | (with_reducible exact partition_All.mono _ _)
      | (with_reducible exact partition_Valid.mono _ _)
      | (with_reducible exact semigrouplaw03_awake.mono _)
      | (with_reducible exact semigroupref03_Less.mono _ _ _)
      | (with_reducible exact semigroupref03_Same.mono _ _ _)
      | (with_reducible exact semigroupref03_Valid.mono _ _)
      | (with_reducible exact LeO.refl _)
      | (with_reducible exact LeO.none _)
      | (with_reducible refine LeO.ite ?_ ?_)
      | (with_reducible refine LeO.bind ?_ (fun _ => ?_))
      | exact ih0 _ _
      | exact ih1 _ _ _ _ _ _
      | exact ih2 _ _ _ _ _ _ _ _
      | exact partition_All.mono _ _
      | exact partition_Valid.mono _ _
      | exact semigrouplaw03_awake.mono _
      | exact semigroupref03_Less.mono _ _ _
      | exact semigroupref03_Same.mono _ _ _
      | exact semigroupref03_Valid.mono _ _
      | exact LeO.none _
      | refine LeO.ite ?_ ?_
      | refine LeO.bind ?_ (fun _ => ?_)
set_option maxHeartbeats 8000000 in
set_option maxRecDepth 100000 in
theorem semigrouplaw03_PartitionListed.calls (k : Nat) (A0 : Option Addr) (c0 : Nat) (l0 : List Int) (r : Bool) (w : World) (hr0 : Kd.C (Kd.int .i64) w A0 l0.length l0) (hc0 : l0.length ≤ c0) (h : semigrouplaw03_PartitionListed.f k l0 = some r) :
    Calls Try.prog 9 #[.slice A0 l0.length c0] w fun e w' => e = .returned (.bool r) ∧ Below w.heap.size w w' := by
  have HR0 := Aside0.mk hr0
  have HC0 := Aside0.mk hc0
  clear hr0 hc0
  have HB := Aside0.mk (Below.refl w.heap.size w)
  have H : ((semigroupref03_Valid.f k l0).bind fun t140 => (if t140 = true then (semigrouplaw03_PartitionListed.j0 k l0 (decide ((l0.length : Int) > 6))) else (semigrouplaw03_PartitionListed.j0 k l0 true))) = some r := h
  clear h
  have HC2 := Aside0.mk H
  clear H
  go_enter Try.func9, Try.ntmps9
  go_upto_region 1 with (fail)
  go_cut [14] (fun v14 wc => ∃ (kq : Nat) (x14_1 : Bool), v14 = .bool x14_1 ∧ Aside0 (semigrouplaw03_PartitionListed.j0 kq l0 x14_1 = some r) ∧ Aside0 (kq ≤ k) ∧ Aside0 (Below w.heap.size w wc))
  case first =>
    have H := HC2.out
    clear HC2
    replace H := Option.bind_eq_some_iff.mp H
    obtain ⟨t140, A30, H⟩ := H
    replace H : (if t140 = true then (semigrouplaw03_PartitionListed.j0 k l0 (decide ((l0.length : Int) > 6))) else (semigrouplaw03_PartitionListed.j0 k l0 true)) = some r := H
    have A3 := Aside0.mk A30
    clear A30
    by_cases c4 : t140 = true
    · subst c4
      have H1 : (semigrouplaw03_PartitionListed.j0 k l0 (decide ((l0.length : Int) > 6))) = some r := by rw [if_pos rfl] at H; exact H
      clear H
      have H := H1
      clear H1
      have H' := Aside0.mk H
      clear H
      go_wp2_with (first | ((with_reducible refine gate_callee (f := 19) rfl ?_); refine goesL_ (some 8) rfl rfl Try.func19 (by kernel_rfl) rfl #[.slice A0 l0.length c0] rfl (by (try simp only [List.map_toArray, List.map_cons, List.map_nil]); first | done | rfl | (simp only [List.length_drop, List.length_take]; rfl)) ?_; (with_reducible refine (semigroupref03_Valid.calls k _ _ l0 true _ ?side1 ?side2 A3.out).mono ?_); (case side1 => repeat (first | exact (Kd.C_below HR0.out HB.out) | (with_reducible refine Kd.C_alloc ?_ _) | (with_reducible refine Kd.C_drewN ?_ _) | (with_reducible refine Kd.C_drew ?_))); (case side2 => exact HC0.out); rintro e w5 ⟨rfl, hb⟩; refine ⟨_, rfl, ?_⟩; have n0_ := Aside0.mk (below_step (by repeat (first | (with_reducible first | exact HB.out | apply below_alloc | apply pw_below_drewN | apply below_drew1) | exact HB.out)) hb); clear HB; have HB := n0_; clear n0_; (try clear hb); (try clear hb2); (try clear hk); (try clear hi)))
      go_meet
      case rel => exact ⟨_, (decide ((l0.length : Int) > 6)), (by first | rfl | (simp; done) | (simp [*]; done)), H', ⟨by first | omega | exact Nat.le_refl _⟩, ⟨by repeat (first | (with_reducible first | exact HB.out | apply below_alloc | apply pw_below_drewN | apply below_drew1) | exact HB.out)⟩⟩
    · replace c4 := Bool.eq_false_iff.mpr c4
      subst c4
      have H1 : (semigrouplaw03_PartitionListed.j0 k l0 true) = some r := by rw [if_neg (show ¬ (false = true) by decide)] at H; exact H
      clear H
      have H := H1
      clear H1
      have H' := Aside0.mk H
      clear H
      go_wp2_with (first | ((with_reducible refine gate_callee (f := 19) rfl ?_); refine goesL_ (some 8) rfl rfl Try.func19 (by kernel_rfl) rfl #[.slice A0 l0.length c0] rfl (by (try simp only [List.map_toArray, List.map_cons, List.map_nil]); first | done | rfl | (simp only [List.length_drop, List.length_take]; rfl)) ?_; (with_reducible refine (semigroupref03_Valid.calls k _ _ l0 false _ ?side1 ?side2 A3.out).mono ?_); (case side1 => repeat (first | exact (Kd.C_below HR0.out HB.out) | (with_reducible refine Kd.C_alloc ?_ _) | (with_reducible refine Kd.C_drewN ?_ _) | (with_reducible refine Kd.C_drew ?_))); (case side2 => exact HC0.out); rintro e w6 ⟨rfl, hb⟩; refine ⟨_, rfl, ?_⟩; have n0_ := Aside0.mk (below_step (by repeat (first | (with_reducible first | exact HB.out | apply below_alloc | apply pw_below_drewN | apply below_drew1) | exact HB.out)) hb); clear HB; have HB := n0_; clear n0_; (try clear hb); (try clear hb2); (try clear hk); (try clear hi)))
      go_meet
      case rel => exact ⟨_, (true), (by first | rfl | (simp; done) | (simp [*]; done)), H', ⟨by first | omega | exact Nat.le_refl _⟩, ⟨by repeat (first | (with_reducible first | exact HB.out | apply below_alloc | apply pw_below_drewN | apply below_drew1) | exact HB.out)⟩⟩
  case rest =>
    clear HC2
    try clear c1
    try clear p2
    try clear c4
    obtain ⟨kq, x14_1, rfl, HA, HJ1, HB⟩ := hcut
    cases kq with
    | zero => exact absurd HA.out (by simp [semigrouplaw03_PartitionListed.j0])
    | succ kj1 =>
      have H := HA.out
      clear HA
      simp only [semigrouplaw03_PartitionListed.j0] at H
      by_cases c7 : x14_1 = true
      · subst c7
        have H1 : ((semigrouplaw03_awake.f kj1).bind fun t141 => (some t141)) = some r := by rw [if_pos rfl] at H; exact H
        clear H
        have H := H1
        clear H1
        replace H := Option.bind_eq_some_iff.mp H
        obtain ⟨t141, A80, H⟩ := H
        replace H : (some t141) = some r := H
        have A8 := Aside0.mk A80
        clear A80
        obtain rfl := Option.some.inj H
        go_wp2_with (first | ((with_reducible refine gate_callee (f := 20) rfl ?_); refine goesL_ (some 15) rfl rfl Try.func20 (by kernel_rfl) rfl #[] rfl (by (try simp only [List.map_toArray, List.map_cons, List.map_nil]); first | done | rfl | (simp only [List.length_drop, List.length_take]; rfl)) ?_; (with_reducible refine (semigrouplaw03_awake.calls kj1  t141 _ A8.out).mono ?_); rintro e w9 ⟨rfl, hb⟩; refine ⟨_, rfl, ?_⟩; have n0_ := Aside0.mk (below_step (by repeat (first | (with_reducible first | exact HB.out | apply below_alloc | apply pw_below_drewN | apply below_drew1) | exact HB.out)) hb); clear HB; have HB := n0_; clear n0_; (try clear hb); (try clear hb2); (try clear hk); (try clear hi)))
        go_ret
        exact ⟨by first | rfl | (simp [errW_none, errW_some] <;> rfl) | (simp [*, errW_none, errW_some] <;> rfl), by repeat (first | (with_reducible first | exact HB.out | apply below_alloc | apply pw_below_drewN | apply below_drew1) | exact HB.out)⟩
      · replace c7 := Bool.eq_false_iff.mpr c7
        subst c7
        have H1 : ((partition_All.f kj1 (l0.length : Int)).bind fun t142 => (semigrouplaw03_PartitionListed.l0 kj1 l0 0 t142 t142 (t142.length : Int) 0)) = some r := by rw [if_neg (show ¬ (false = true) by decide)] at H; exact H
        clear H
        have H := H1
        clear H1
        replace H := Option.bind_eq_some_iff.mp H
        obtain ⟨t142, A100, H⟩ := H
        replace H : (semigrouplaw03_PartitionListed.l0 kj1 l0 0 t142 t142 (t142.length : Int) 0) = some r := H
        have A10 := Aside0.mk A100
        clear A100
        have H' := Aside0.mk H
        clear H
        go_wp2_with (first | ((with_reducible refine gate_callee (f := 32) rfl ?_); refine goesL_ (some 18) rfl rfl Try.func32 (by kernel_rfl) rfl #[.int .i64 (l0.length : Int)] rfl (by (try simp only [List.map_toArray, List.map_cons, List.map_nil]); first | done | rfl | (simp only [List.length_drop, List.length_take]; rfl)) ?_; (with_reducible refine (partition_All.calls kj1 (l0.length : Int) t142 _ A10.out).mono ?_); rintro e w11 ⟨v143, rfl, ho0, hb⟩; refine ⟨_, rfl, ?_⟩; have n0_ := Aside0.mk (Kd.N_lower (Kd.N_mono (ok' := fun k_ => True) ho0 (fun k_ hk_ => trivial)) (below_size (by repeat (first | (with_reducible first | exact HB.out | apply below_alloc | apply pw_below_drewN | apply below_drew1) | exact HB.out)))); have n1_ := Aside0.mk (below_step (by repeat (first | (with_reducible first | exact HB.out | apply below_alloc | apply pw_below_drewN | apply below_drew1) | exact HB.out)) hb); clear HB; have HO144 := n0_; have HB := n1_; clear n0_ n1_; (try clear hb); (try clear hb2); (try clear hk); (try clear hi); (try clear ho0); obtain ⟨Ao12, co12, eo12⟩ := Kd.N_slice HO144.out; subst eo12))
        go_loopg [3, 21] kj1 (fun kq v3 v21 w' => ∃ (x3_2 : Int) (x21_2 : Int), v3 = .int .i64 x3_2 ∧ v21 = .int .i64 x21_2 ∧ Aside0 (semigrouplaw03_PartitionListed.l0 kq l0 x3_2 t142 t142 (t142.length : Int) x21_2 = some r) ∧ Aside0 (kq ≤ kj1) ∧ Aside0 (Kd.N (Kd.slice 3 (Kd.int .i64)) 22 w' w.heap.size (fun _ => True) (.slice Ao12 t142.length co12) t142) ∧ Aside0 (Kd.N (Kd.slice 3 (Kd.int .i64)) 22 w' w.heap.size (fun _ => True) (.slice Ao12 t142.length co12) t142) ∧ Aside0 (Below w.heap.size w w'))
        case atStart => exact ⟨(0), (0), (by first | rfl | (simp; done) | (simp [*]; done)), (by first | rfl | (simp; done) | (simp [*]; done)), H', ⟨Nat.le_refl _⟩, ⟨by (with_reducible repeat (first | apply Kd.N_alloc | apply Kd.N_drewN | apply Kd.N_drew)); exact HO144.out⟩, ⟨by (with_reducible repeat (first | apply Kd.N_alloc | apply Kd.N_drewN | apply Kd.N_drew)); exact HO144.out⟩, ⟨by repeat (first | (with_reducible first | exact HB.out | apply below_alloc | apply pw_below_drewN | apply below_drew1) | exact HB.out)⟩⟩
        case round =>
          clear H'
          try clear c1
          try clear c2
          try clear p2
          try clear c3
          try clear c4
          try clear c7
          try clear c9
          try clear p2
          obtain ⟨x3_2, x21_2, rfl, rfl, HA, HK2, HO_4, HO_19, HB⟩ := hrel
          cases gk with
          | zero => exact absurd HA.out (by simp [semigrouplaw03_PartitionListed.l0])
          | succ k2 =>
            have H := HA.out
            clear HA
            simp only [semigrouplaw03_PartitionListed.l0] at H
            by_cases c13 : x21_2 < (t142.length : Int)
            · rw [if_pos c13] at H
              have c13b0 : decide (x21_2 < (t142.length : Int)) = true := decide_eq_true c13
              clear c13
              by_cases c14 : 0 ≤ x21_2
              · rw [if_pos c14] at H
                have c14b0 : decide (0 ≤ x21_2) = true := decide_eq_true c14
                clear c14
                by_cases c15 : x21_2 < (t142.length : Int)
                · rw [if_pos c15] at H
                  have c15b0 : decide (x21_2 < (t142.length : Int)) = true := decide_eq_true c15
                  clear c15
                  have HC16 := Aside0.mk H
                  clear H
                  have p146 : 0 ≤ (x21_2 : Int) := of_decide_eq_true (by first | (with_reducible assumption) | assumption)
                  have q146 : x21_2 < (t142.length : Int) := of_decide_eq_true (by first | (with_reducible assumption) | assumption)
                  obtain ⟨ad146, A146_0, c146_0, e146, hx146_0, hl146_0, hi146_0⟩ := at_L1 (Kd.N_reads' HO_19.out).2.2 x21_2 p146 q146
                  cases e146
                  obtain ⟨ce146, hce146, hMe146, hcc146⟩ := Kd.N_get HO_19.out [] x21_2 p146 (by first | exact q146 | exact of_decide_eq_true (by first | (with_reducible assumption) | assumption) | (have e_ := (Kd.N_reads' HO_19.out).1; omega))
                  obtain ⟨ua146_0, uc146_0, rfl, ul146_0, ge146_0⟩ := Kd.FK_slice_open hMe146
                  have hv146_0 := hcc146 0 _ rfl
                  rw [Nat.add_zero, show ((Kd.slice 3 (Kd.int .i64))).sz = 1 from rfl, Nat.mul_one] at hv146_0
                  replace hv146_0 := Option.some.inj (hv146_0.symm.trans hx146_0)
                  injection hv146_0 with hva_ hvn_ hvc_
                  rw [hva_] at ge146_0
                  rw [hvc_] at ul146_0
                  have HL146_0 := Aside0.mk (show Kd.V (Kd.int .i64) 3 _ w.heap.size _ _ (rd_L1 t142 x21_2) from Kd.V_mk ul146_0 ge146_0)
                  clear hva_ hvn_ hvc_ ge146_0 ul146_0
                  clear hcc146 hce146
                  have HR146_0 := Aside0.mk hi146_0
                  have HC146_0 := Aside0.mk hl146_0
                  clear hi146_0 hl146_0
                  replace p146 := eq_true p146
                  replace q146 := eq_true q146
                  go_upto_region 8 with (fail)
                  go_cut [49] (fun v49 wc => ∃ (kq : Nat) (x49_15 : Bool), v49 = .bool x49_15 ∧ Aside0 (semigrouplaw03_PartitionListed.j2 kq l0 x3_2 t142 (rd_L1 t142 x21_2) t142 (t142.length : Int) x21_2 x49_15 = some r) ∧ Aside0 (kq ≤ k2) ∧ Aside0 (Kd.N (Kd.slice 3 (Kd.int .i64)) 22 wc w.heap.size (fun _ => True) (.slice (some ad146) t142.length co12) t142) ∧ Aside0 (Kd.N (Kd.slice 3 (Kd.int .i64)) 22 wc w.heap.size (fun _ => True) (.slice (some ad146) t142.length co12) t142) ∧ Aside0 (Kd.V (Kd.int .i64) 3 wc w.heap.size (fun k_ => some k_ ≠ ((.slice (some ad146) t142.length co12) : Value).ownBlock) (.slice A146_0 (rd_L1 t142 x21_2).length c146_0) (rd_L1 t142 x21_2)) ∧ Aside0 (Kd.C (Kd.int .i64) wc A146_0 (rd_L1 t142 x21_2).length (rd_L1 t142 x21_2)) ∧ Aside0 (Below w.heap.size w wc))
                  case first =>
                    have H := HC16.out
                    clear HC16
                    by_cases c17 : x21_2 > 0
                    · rw [if_pos c17] at H
                      have c17b0 : decide (0 < x21_2) = true := decide_eq_true c17
                      clear c17
                      (first | rw [c17b0] | (simp only [i64_w, i32_w]; rw [c17b0]) | skip)
                      obtain ⟨ji18, hji18⟩ : ∃ j_ : Int, (wrap64 (x21_2 - 1)) = j_ := ⟨_, rfl⟩
                      replace H : (if 0 ≤ (ji18) then (if (ji18) < (t142.length : Int) then ((semigroupref03_Less.f k2 (rd_L1 t142 (ji18)) (rd_L1 t142 x21_2)).bind fun t148 => (if t148 = true then ((partition_Valid.f k2 (rd_L1 t142 x21_2)).bind fun t149 => (if t149 = true then (semigrouplaw03_PartitionListed.j2 k2 l0 x3_2 t142 (rd_L1 t142 x21_2) t142 (t142.length : Int) x21_2 (((rd_L1 t142 x21_2).length : Int) != (l0.length : Int))) else (semigrouplaw03_PartitionListed.j2 k2 l0 x3_2 t142 (rd_L1 t142 x21_2) t142 (t142.length : Int) x21_2 true))) else (semigrouplaw03_PartitionListed.j2 k2 l0 x3_2 t142 (rd_L1 t142 x21_2) t142 (t142.length : Int) x21_2 true))) else (none)) else (none)) = some r := by first | (rw [hji18] at H; exact H) | (simp only [hji18] at H ⊢; exact H)
                      have hji18w : (IntKind.i64.wrap (x21_2 - 1)) = ji18 := (i64_w _).trans hji18
                      by_cases c19 : 0 ≤ (ji18)
                      · rw [if_pos c19] at H
                        have c19b0 : decide (0 ≤ (ji18)) = true := decide_eq_true c19
                        clear c19
                        by_cases c20 : (ji18) < (t142.length : Int)
                        · rw [if_pos c20] at H
                          have c20b0 : decide ((ji18) < (t142.length : Int)) = true := decide_eq_true c20
                          clear c20
                          replace H := Option.bind_eq_some_iff.mp H
                          obtain ⟨t148, A210, H⟩ := H
                          replace H : (if t148 = true then ((partition_Valid.f k2 (rd_L1 t142 x21_2)).bind fun t149 => (if t149 = true then (semigrouplaw03_PartitionListed.j2 k2 l0 x3_2 t142 (rd_L1 t142 x21_2) t142 (t142.length : Int) x21_2 (((rd_L1 t142 x21_2).length : Int) != (l0.length : Int))) else (semigrouplaw03_PartitionListed.j2 k2 l0 x3_2 t142 (rd_L1 t142 x21_2) t142 (t142.length : Int) x21_2 true))) else (semigrouplaw03_PartitionListed.j2 k2 l0 x3_2 t142 (rd_L1 t142 x21_2) t142 (t142.length : Int) x21_2 true)) = some r := H
                          have A21 := Aside0.mk A210
                          clear A210
                          by_cases c22 : t148 = true
                          · subst c22
                            have H1 : ((partition_Valid.f k2 (rd_L1 t142 x21_2)).bind fun t149 => (if t149 = true then (semigrouplaw03_PartitionListed.j2 k2 l0 x3_2 t142 (rd_L1 t142 x21_2) t142 (t142.length : Int) x21_2 (((rd_L1 t142 x21_2).length : Int) != (l0.length : Int))) else (semigrouplaw03_PartitionListed.j2 k2 l0 x3_2 t142 (rd_L1 t142 x21_2) t142 (t142.length : Int) x21_2 true))) = some r := by rw [if_pos rfl] at H; exact H
                            clear H
                            have H := H1
                            clear H1
                            replace H := Option.bind_eq_some_iff.mp H
                            obtain ⟨t149, A230, H⟩ := H
                            replace H : (if t149 = true then (semigrouplaw03_PartitionListed.j2 k2 l0 x3_2 t142 (rd_L1 t142 x21_2) t142 (t142.length : Int) x21_2 (((rd_L1 t142 x21_2).length : Int) != (l0.length : Int))) else (semigrouplaw03_PartitionListed.j2 k2 l0 x3_2 t142 (rd_L1 t142 x21_2) t142 (t142.length : Int) x21_2 true)) = some r := H
                            have A23 := Aside0.mk A230
                            clear A230
                            by_cases c24 : t149 = true
                            · subst c24
                              have H1 : (semigrouplaw03_PartitionListed.j2 k2 l0 x3_2 t142 (rd_L1 t142 x21_2) t142 (t142.length : Int) x21_2 (((rd_L1 t142 x21_2).length : Int) != (l0.length : Int))) = some r := by rw [if_pos rfl] at H; exact H
                              clear H
                              have H := H1
                              clear H1
                              have H' := Aside0.mk H
                              clear H
                              have p147 : 0 ≤ ((ji18) : Int) := of_decide_eq_true (by first | (with_reducible assumption) | assumption)
                              have q147 : (ji18) < (t142.length : Int) := of_decide_eq_true (by first | (with_reducible assumption) | assumption)
                              obtain ⟨ad147, A147_0, c147_0, e147, hx147_0, hl147_0, hi147_0⟩ := at_L1 (Kd.N_reads' HO_4.out).2.2 (ji18) p147 q147
                              obtain rfl : ad146 = ad147 := (by injection e147)
                              obtain ⟨ce147, hce147, hMe147, hcc147⟩ := Kd.N_get HO_4.out [] (ji18) p147 (by first | exact q147 | exact of_decide_eq_true (by first | (with_reducible assumption) | assumption) | (have e_ := (Kd.N_reads' HO_4.out).1; omega))
                              obtain ⟨ua147_0, uc147_0, rfl, ul147_0, ge147_0⟩ := Kd.FK_slice_open hMe147
                              have hv147_0 := hcc147 0 _ rfl
                              rw [Nat.add_zero, show ((Kd.slice 3 (Kd.int .i64))).sz = 1 from rfl, Nat.mul_one] at hv147_0
                              replace hv147_0 := Option.some.inj (hv147_0.symm.trans hx147_0)
                              injection hv147_0 with hva_ hvn_ hvc_
                              rw [hva_] at ge147_0
                              rw [hvc_] at ul147_0
                              have HL147_0 := Aside0.mk (show Kd.V (Kd.int .i64) 3 _ w.heap.size _ _ (rd_L1 t142 (ji18)) from Kd.V_mk ul147_0 ge147_0)
                              clear hva_ hvn_ hvc_ ge147_0 ul147_0
                              clear hcc147 hce147
                              have HR147_0 := Aside0.mk hi147_0
                              have HC147_0 := Aside0.mk hl147_0
                              clear hi147_0 hl147_0
                              replace p147 := eq_true p147
                              replace q147 := eq_true q147
                              go_wp2_with (first | (go_at_call 34; (with_reducible refine (semigroupref03_Less.calls k2 _ _ (rd_L1 t142 (ji18)) _ _ (rd_L1 t142 x21_2) true _ ?side1 ?side2 ?side3 ?side4 A21.out).mono ?_); (case side1 => repeat (first | exact (by repeat (first | (with_reducible exact HR147_0.out) | (with_reducible refine Kd.C_alloc ?_ _) | (with_reducible refine Kd.C_drewN ?_ _) | (with_reducible refine Kd.C_drew ?_) | exact HR147_0.out)) | (with_reducible refine Kd.C_alloc ?_ _) | (with_reducible refine Kd.C_drewN ?_ _) | (with_reducible refine Kd.C_drew ?_))); (case side2 => exact HC147_0.out); (case side3 => repeat (first | exact (by repeat (first | (with_reducible exact HR146_0.out) | (with_reducible refine Kd.C_alloc ?_ _) | (with_reducible refine Kd.C_drewN ?_ _) | (with_reducible refine Kd.C_drew ?_) | exact HR146_0.out)) | (with_reducible refine Kd.C_alloc ?_ _) | (with_reducible refine Kd.C_drewN ?_ _) | (with_reducible refine Kd.C_drew ?_))); (case side4 => exact HC146_0.out); rintro e w' ⟨rfl, ⟨nd, rfl⟩⟩) | (go_at_call 18; (with_reducible refine (partition_Valid.calls k2 _ _ (rd_L1 t142 x21_2) true _ ?side1 ?side2 A23.out).mono ?_); (case side1 => repeat (first | exact (by repeat (first | (with_reducible exact HR146_0.out) | (with_reducible refine Kd.C_alloc ?_ _) | (with_reducible refine Kd.C_drewN ?_ _) | (with_reducible refine Kd.C_drew ?_) | exact HR146_0.out)) | (with_reducible refine Kd.C_alloc ?_ _) | (with_reducible refine Kd.C_drewN ?_ _) | (with_reducible refine Kd.C_drew ?_))); (case side2 => exact HC146_0.out); rintro e w' ⟨rfl, ⟨nd, rfl⟩⟩))
                              go_meet
                              case rel => exact ⟨_, ((((rd_L1 t142 x21_2).length : Int) != (l0.length : Int))), (by first | rfl | (simp; done) | (simp [*]; done)), H', ⟨by have := HJ1.out; have := HK2.out; first | omega | exact Nat.le_refl _⟩, ⟨by (with_reducible repeat (first | apply Kd.N_alloc | apply Kd.N_drewN | apply Kd.N_drew)); exact HO_4.out⟩, ⟨by (with_reducible repeat (first | apply Kd.N_alloc | apply Kd.N_drewN | apply Kd.N_drew)); exact HO_19.out⟩, ⟨by (with_reducible repeat (first | apply Kd.V_alloc | apply Kd.V_drewN | apply Kd.V_drew)); exact Kd.V_mono HL146_0.out (fun _ hk => hk.2)⟩, ⟨by repeat (first | (with_reducible exact HR146_0.out) | (with_reducible refine Kd.C_alloc ?_ _) | (with_reducible refine Kd.C_drewN ?_ _) | (with_reducible refine Kd.C_drew ?_) | exact HR146_0.out)⟩, ⟨by repeat (first | (with_reducible first | exact HB.out | apply below_alloc | apply pw_below_drewN | apply below_drew1) | exact HB.out)⟩⟩
                            · replace c24 := Bool.eq_false_iff.mpr c24
                              subst c24
                              have H1 : (semigrouplaw03_PartitionListed.j2 k2 l0 x3_2 t142 (rd_L1 t142 x21_2) t142 (t142.length : Int) x21_2 true) = some r := by rw [if_neg (show ¬ (false = true) by decide)] at H; exact H
                              clear H
                              have H := H1
                              clear H1
                              have H' := Aside0.mk H
                              clear H
                              have p147 : 0 ≤ ((ji18) : Int) := of_decide_eq_true (by first | (with_reducible assumption) | assumption)
                              have q147 : (ji18) < (t142.length : Int) := of_decide_eq_true (by first | (with_reducible assumption) | assumption)
                              obtain ⟨ad147, A147_0, c147_0, e147, hx147_0, hl147_0, hi147_0⟩ := at_L1 (Kd.N_reads' HO_4.out).2.2 (ji18) p147 q147
                              obtain rfl : ad146 = ad147 := (by injection e147)
                              obtain ⟨ce147, hce147, hMe147, hcc147⟩ := Kd.N_get HO_4.out [] (ji18) p147 (by first | exact q147 | exact of_decide_eq_true (by first | (with_reducible assumption) | assumption) | (have e_ := (Kd.N_reads' HO_4.out).1; omega))
                              obtain ⟨ua147_0, uc147_0, rfl, ul147_0, ge147_0⟩ := Kd.FK_slice_open hMe147
                              have hv147_0 := hcc147 0 _ rfl
                              rw [Nat.add_zero, show ((Kd.slice 3 (Kd.int .i64))).sz = 1 from rfl, Nat.mul_one] at hv147_0
                              replace hv147_0 := Option.some.inj (hv147_0.symm.trans hx147_0)
                              injection hv147_0 with hva_ hvn_ hvc_
                              rw [hva_] at ge147_0
                              rw [hvc_] at ul147_0
                              have HL147_0 := Aside0.mk (show Kd.V (Kd.int .i64) 3 _ w.heap.size _ _ (rd_L1 t142 (ji18)) from Kd.V_mk ul147_0 ge147_0)
                              clear hva_ hvn_ hvc_ ge147_0 ul147_0
                              clear hcc147 hce147
                              have HR147_0 := Aside0.mk hi147_0
                              have HC147_0 := Aside0.mk hl147_0
                              clear hi147_0 hl147_0
                              replace p147 := eq_true p147
                              replace q147 := eq_true q147
                              go_wp2_with (first | (go_at_call 34; (with_reducible refine (semigroupref03_Less.calls k2 _ _ (rd_L1 t142 (ji18)) _ _ (rd_L1 t142 x21_2) true _ ?side1 ?side2 ?side3 ?side4 A21.out).mono ?_); (case side1 => repeat (first | exact (by repeat (first | (with_reducible exact HR147_0.out) | (with_reducible refine Kd.C_alloc ?_ _) | (with_reducible refine Kd.C_drewN ?_ _) | (with_reducible refine Kd.C_drew ?_) | exact HR147_0.out)) | (with_reducible refine Kd.C_alloc ?_ _) | (with_reducible refine Kd.C_drewN ?_ _) | (with_reducible refine Kd.C_drew ?_))); (case side2 => exact HC147_0.out); (case side3 => repeat (first | exact (by repeat (first | (with_reducible exact HR146_0.out) | (with_reducible refine Kd.C_alloc ?_ _) | (with_reducible refine Kd.C_drewN ?_ _) | (with_reducible refine Kd.C_drew ?_) | exact HR146_0.out)) | (with_reducible refine Kd.C_alloc ?_ _) | (with_reducible refine Kd.C_drewN ?_ _) | (with_reducible refine Kd.C_drew ?_))); (case side4 => exact HC146_0.out); rintro e w' ⟨rfl, ⟨nd, rfl⟩⟩) | (go_at_call 18; (with_reducible refine (partition_Valid.calls k2 _ _ (rd_L1 t142 x21_2) false _ ?side1 ?side2 A23.out).mono ?_); (case side1 => repeat (first | exact (by repeat (first | (with_reducible exact HR146_0.out) | (with_reducible refine Kd.C_alloc ?_ _) | (with_reducible refine Kd.C_drewN ?_ _) | (with_reducible refine Kd.C_drew ?_) | exact HR146_0.out)) | (with_reducible refine Kd.C_alloc ?_ _) | (with_reducible refine Kd.C_drewN ?_ _) | (with_reducible refine Kd.C_drew ?_))); (case side2 => exact HC146_0.out); rintro e w' ⟨rfl, ⟨nd, rfl⟩⟩))
                              go_meet
                              case rel => exact ⟨_, (true), (by first | rfl | (simp; done) | (simp [*]; done)), H', ⟨by have := HJ1.out; have := HK2.out; first | omega | exact Nat.le_refl _⟩, ⟨by (with_reducible repeat (first | apply Kd.N_alloc | apply Kd.N_drewN | apply Kd.N_drew)); exact HO_4.out⟩, ⟨by (with_reducible repeat (first | apply Kd.N_alloc | apply Kd.N_drewN | apply Kd.N_drew)); exact HO_19.out⟩, ⟨by (with_reducible repeat (first | apply Kd.V_alloc | apply Kd.V_drewN | apply Kd.V_drew)); exact Kd.V_mono HL146_0.out (fun _ hk => hk.2)⟩, ⟨by repeat (first | (with_reducible exact HR146_0.out) | (with_reducible refine Kd.C_alloc ?_ _) | (with_reducible refine Kd.C_drewN ?_ _) | (with_reducible refine Kd.C_drew ?_) | exact HR146_0.out)⟩, ⟨by repeat (first | (with_reducible first | exact HB.out | apply below_alloc | apply pw_below_drewN | apply below_drew1) | exact HB.out)⟩⟩
                          · replace c22 := Bool.eq_false_iff.mpr c22
                            subst c22
                            have H1 : (semigrouplaw03_PartitionListed.j2 k2 l0 x3_2 t142 (rd_L1 t142 x21_2) t142 (t142.length : Int) x21_2 true) = some r := by rw [if_neg (show ¬ (false = true) by decide)] at H; exact H
                            clear H
                            have H := H1
                            clear H1
                            have H' := Aside0.mk H
                            clear H
                            have p147 : 0 ≤ ((ji18) : Int) := of_decide_eq_true (by first | (with_reducible assumption) | assumption)
                            have q147 : (ji18) < (t142.length : Int) := of_decide_eq_true (by first | (with_reducible assumption) | assumption)
                            obtain ⟨ad147, A147_0, c147_0, e147, hx147_0, hl147_0, hi147_0⟩ := at_L1 (Kd.N_reads' HO_4.out).2.2 (ji18) p147 q147
                            obtain rfl : ad146 = ad147 := (by injection e147)
                            obtain ⟨ce147, hce147, hMe147, hcc147⟩ := Kd.N_get HO_4.out [] (ji18) p147 (by first | exact q147 | exact of_decide_eq_true (by first | (with_reducible assumption) | assumption) | (have e_ := (Kd.N_reads' HO_4.out).1; omega))
                            obtain ⟨ua147_0, uc147_0, rfl, ul147_0, ge147_0⟩ := Kd.FK_slice_open hMe147
                            have hv147_0 := hcc147 0 _ rfl
                            rw [Nat.add_zero, show ((Kd.slice 3 (Kd.int .i64))).sz = 1 from rfl, Nat.mul_one] at hv147_0
                            replace hv147_0 := Option.some.inj (hv147_0.symm.trans hx147_0)
                            injection hv147_0 with hva_ hvn_ hvc_
                            rw [hva_] at ge147_0
                            rw [hvc_] at ul147_0
                            have HL147_0 := Aside0.mk (show Kd.V (Kd.int .i64) 3 _ w.heap.size _ _ (rd_L1 t142 (ji18)) from Kd.V_mk ul147_0 ge147_0)
                            clear hva_ hvn_ hvc_ ge147_0 ul147_0
                            clear hcc147 hce147
                            have HR147_0 := Aside0.mk hi147_0
                            have HC147_0 := Aside0.mk hl147_0
                            clear hi147_0 hl147_0
                            replace p147 := eq_true p147
                            replace q147 := eq_true q147
                            go_wp2_with (first | (go_at_call 34; (with_reducible refine (semigroupref03_Less.calls k2 _ _ (rd_L1 t142 (ji18)) _ _ (rd_L1 t142 x21_2) false _ ?side1 ?side2 ?side3 ?side4 A21.out).mono ?_); (case side1 => repeat (first | exact (by repeat (first | (with_reducible exact HR147_0.out) | (with_reducible refine Kd.C_alloc ?_ _) | (with_reducible refine Kd.C_drewN ?_ _) | (with_reducible refine Kd.C_drew ?_) | exact HR147_0.out)) | (with_reducible refine Kd.C_alloc ?_ _) | (with_reducible refine Kd.C_drewN ?_ _) | (with_reducible refine Kd.C_drew ?_))); (case side2 => exact HC147_0.out); (case side3 => repeat (first | exact (by repeat (first | (with_reducible exact HR146_0.out) | (with_reducible refine Kd.C_alloc ?_ _) | (with_reducible refine Kd.C_drewN ?_ _) | (with_reducible refine Kd.C_drew ?_) | exact HR146_0.out)) | (with_reducible refine Kd.C_alloc ?_ _) | (with_reducible refine Kd.C_drewN ?_ _) | (with_reducible refine Kd.C_drew ?_))); (case side4 => exact HC146_0.out); rintro e w' ⟨rfl, ⟨nd, rfl⟩⟩))
                            go_meet
                            case rel => exact ⟨_, (true), (by first | rfl | (simp; done) | (simp [*]; done)), H', ⟨by have := HJ1.out; have := HK2.out; first | omega | exact Nat.le_refl _⟩, ⟨by (with_reducible repeat (first | apply Kd.N_alloc | apply Kd.N_drewN | apply Kd.N_drew)); exact HO_4.out⟩, ⟨by (with_reducible repeat (first | apply Kd.N_alloc | apply Kd.N_drewN | apply Kd.N_drew)); exact HO_19.out⟩, ⟨by (with_reducible repeat (first | apply Kd.V_alloc | apply Kd.V_drewN | apply Kd.V_drew)); exact Kd.V_mono HL146_0.out (fun _ hk => hk.2)⟩, ⟨by repeat (first | (with_reducible exact HR146_0.out) | (with_reducible refine Kd.C_alloc ?_ _) | (with_reducible refine Kd.C_drewN ?_ _) | (with_reducible refine Kd.C_drew ?_) | exact HR146_0.out)⟩, ⟨by repeat (first | (with_reducible first | exact HB.out | apply below_alloc | apply pw_below_drewN | apply below_drew1) | exact HB.out)⟩⟩
                        · rw [if_neg c20] at H
                          exact absurd H (by simp)
                      · rw [if_neg c19] at H
                        exact absurd H (by simp)
                    · rw [if_neg c17] at H
                      have c17b0 : decide (0 < x21_2) = false := decide_eq_false c17
                      clear c17
                      (first | rw [c17b0] | (simp only [i64_w, i32_w]; rw [c17b0]) | skip)
                      replace H := Option.bind_eq_some_iff.mp H
                      obtain ⟨t150, A250, H⟩ := H
                      replace H : (if t150 = true then (semigrouplaw03_PartitionListed.j2 k2 l0 x3_2 t142 (rd_L1 t142 x21_2) t142 (t142.length : Int) x21_2 (((rd_L1 t142 x21_2).length : Int) != (l0.length : Int))) else (semigrouplaw03_PartitionListed.j2 k2 l0 x3_2 t142 (rd_L1 t142 x21_2) t142 (t142.length : Int) x21_2 true)) = some r := H
                      have A25 := Aside0.mk A250
                      clear A250
                      by_cases c26 : t150 = true
                      · subst c26
                        have H1 : (semigrouplaw03_PartitionListed.j2 k2 l0 x3_2 t142 (rd_L1 t142 x21_2) t142 (t142.length : Int) x21_2 (((rd_L1 t142 x21_2).length : Int) != (l0.length : Int))) = some r := by rw [if_pos rfl] at H; exact H
                        clear H
                        have H := H1
                        clear H1
                        have H' := Aside0.mk H
                        clear H
                        go_wp2_with (first | (go_at_call 18; (with_reducible refine (partition_Valid.calls k2 _ _ (rd_L1 t142 x21_2) true _ ?side1 ?side2 A25.out).mono ?_); (case side1 => repeat (first | exact (by repeat (first | (with_reducible exact HR146_0.out) | (with_reducible refine Kd.C_alloc ?_ _) | (with_reducible refine Kd.C_drewN ?_ _) | (with_reducible refine Kd.C_drew ?_) | exact HR146_0.out)) | (with_reducible refine Kd.C_alloc ?_ _) | (with_reducible refine Kd.C_drewN ?_ _) | (with_reducible refine Kd.C_drew ?_))); (case side2 => exact HC146_0.out); rintro e w' ⟨rfl, ⟨nd, rfl⟩⟩))
                        go_meet
                        case rel => exact ⟨_, ((((rd_L1 t142 x21_2).length : Int) != (l0.length : Int))), (by first | rfl | (simp; done) | (simp [*]; done)), H', ⟨by have := HJ1.out; have := HK2.out; first | omega | exact Nat.le_refl _⟩, ⟨by (with_reducible repeat (first | apply Kd.N_alloc | apply Kd.N_drewN | apply Kd.N_drew)); exact HO_4.out⟩, ⟨by (with_reducible repeat (first | apply Kd.N_alloc | apply Kd.N_drewN | apply Kd.N_drew)); exact HO_19.out⟩, ⟨by (with_reducible repeat (first | apply Kd.V_alloc | apply Kd.V_drewN | apply Kd.V_drew)); exact Kd.V_mono HL146_0.out (fun _ hk => hk.2)⟩, ⟨by repeat (first | (with_reducible exact HR146_0.out) | (with_reducible refine Kd.C_alloc ?_ _) | (with_reducible refine Kd.C_drewN ?_ _) | (with_reducible refine Kd.C_drew ?_) | exact HR146_0.out)⟩, ⟨by repeat (first | (with_reducible first | exact HB.out | apply below_alloc | apply pw_below_drewN | apply below_drew1) | exact HB.out)⟩⟩
                      · replace c26 := Bool.eq_false_iff.mpr c26
                        subst c26
                        have H1 : (semigrouplaw03_PartitionListed.j2 k2 l0 x3_2 t142 (rd_L1 t142 x21_2) t142 (t142.length : Int) x21_2 true) = some r := by rw [if_neg (show ¬ (false = true) by decide)] at H; exact H
                        clear H
                        have H := H1
                        clear H1
                        have H' := Aside0.mk H
                        clear H
                        go_wp2_with (first | (go_at_call 18; (with_reducible refine (partition_Valid.calls k2 _ _ (rd_L1 t142 x21_2) false _ ?side1 ?side2 A25.out).mono ?_); (case side1 => repeat (first | exact (by repeat (first | (with_reducible exact HR146_0.out) | (with_reducible refine Kd.C_alloc ?_ _) | (with_reducible refine Kd.C_drewN ?_ _) | (with_reducible refine Kd.C_drew ?_) | exact HR146_0.out)) | (with_reducible refine Kd.C_alloc ?_ _) | (with_reducible refine Kd.C_drewN ?_ _) | (with_reducible refine Kd.C_drew ?_))); (case side2 => exact HC146_0.out); rintro e w' ⟨rfl, ⟨nd, rfl⟩⟩))
                        go_meet
                        case rel => exact ⟨_, (true), (by first | rfl | (simp; done) | (simp [*]; done)), H', ⟨by have := HJ1.out; have := HK2.out; first | omega | exact Nat.le_refl _⟩, ⟨by (with_reducible repeat (first | apply Kd.N_alloc | apply Kd.N_drewN | apply Kd.N_drew)); exact HO_4.out⟩, ⟨by (with_reducible repeat (first | apply Kd.N_alloc | apply Kd.N_drewN | apply Kd.N_drew)); exact HO_19.out⟩, ⟨by (with_reducible repeat (first | apply Kd.V_alloc | apply Kd.V_drewN | apply Kd.V_drew)); exact Kd.V_mono HL146_0.out (fun _ hk => hk.2)⟩, ⟨by repeat (first | (with_reducible exact HR146_0.out) | (with_reducible refine Kd.C_alloc ?_ _) | (with_reducible refine Kd.C_drewN ?_ _) | (with_reducible refine Kd.C_drew ?_) | exact HR146_0.out)⟩, ⟨by repeat (first | (with_reducible first | exact HB.out | apply below_alloc | apply pw_below_drewN | apply below_drew1) | exact HB.out)⟩⟩
                  case rest =>
                    clear HC16
                    try clear c1
                    try clear p1
                    try clear q1
                    try clear hx1
                    try clear c2
                    try clear p2
                    try clear c3
                    try clear c4
                    try clear p6
                    try clear c7
                    try clear c9
                    try clear c13
                    try clear c13b0
                    try clear c14
                    try clear c14b0
                    try clear p14
                    try clear q14
                    try clear hx14
                    try clear c15
                    try clear c15b0
                    try clear c17
                    try clear c17b0
                    try clear c19
                    try clear c19b0
                    try clear c20
                    try clear c20b0
                    try clear c22
                    try clear c24
                    try clear c26
                    try clear hx146_0
                    try clear hx147_0
                    try clear p146
                    try clear p147
                    try clear p2
                    try clear q146
                    try clear q147
                    obtain ⟨kq, x49_15, rfl, HA, HJ15, HO_4, HO_19, HL146_0, HR146_0, HB⟩ := hcut
                    cases kq with
                    | zero => exact absurd HA.out (by simp [semigrouplaw03_PartitionListed.j2])
                    | succ kj15 =>
                      have H := HA.out
                      clear HA
                      simp only [semigrouplaw03_PartitionListed.j2] at H
                      by_cases c27 : x49_15 = true
                      · subst c27
                        have H1 : (some false) = some r := by rw [if_pos rfl] at H; exact H
                        clear H
                        have H := H1
                        clear H1
                        obtain rfl := Option.some.inj H
                        go_wp2
                        go_ret
                        exact ⟨by first | rfl | (simp [errW_none, errW_some] <;> rfl) | (simp [*, errW_none, errW_some] <;> rfl), by repeat (first | (with_reducible first | exact HB.out | apply below_alloc | apply pw_below_drewN | apply below_drew1) | exact HB.out)⟩
                      · replace c27 := Bool.eq_false_iff.mpr c27
                        subst c27
                        have H1 : ((semigroupref03_Same.f kj15 l0 (rd_L1 t142 x21_2)).bind fun t151 => (if t151 = true then (semigrouplaw03_PartitionListed.l0 kj15 l0 (wrap64 (x3_2 + 1)) t142 t142 (t142.length : Int) (wrap64 (x21_2 + 1))) else (semigrouplaw03_PartitionListed.l0 kj15 l0 x3_2 t142 t142 (t142.length : Int) (wrap64 (x21_2 + 1))))) = some r := by rw [if_neg (show ¬ (false = true) by decide)] at H; exact H
                        clear H
                        have H := H1
                        clear H1
                        replace H := Option.bind_eq_some_iff.mp H
                        obtain ⟨t151, A280, H⟩ := H
                        replace H : (if t151 = true then (semigrouplaw03_PartitionListed.l0 kj15 l0 (wrap64 (x3_2 + 1)) t142 t142 (t142.length : Int) (wrap64 (x21_2 + 1))) else (semigrouplaw03_PartitionListed.l0 kj15 l0 x3_2 t142 t142 (t142.length : Int) (wrap64 (x21_2 + 1)))) = some r := H
                        have A28 := Aside0.mk A280
                        clear A280
                        by_cases c29 : t151 = true
                        · subst c29
                          have H1 : (semigrouplaw03_PartitionListed.l0 kj15 l0 (wrap64 (x3_2 + 1)) t142 t142 (t142.length : Int) (wrap64 (x21_2 + 1))) = some r := by rw [if_pos rfl] at H; exact H
                          clear H
                          have H := H1
                          clear H1
                          have H' := Aside0.mk H
                          clear H
                          go_wp2_with (first | ((with_reducible refine gate_callee (f := 16) rfl ?_); refine goesL_ (some 52) rfl rfl Try.func16 (by kernel_rfl) rfl #[.slice A0 l0.length c0, .slice A146_0 (rd_L1 t142 x21_2).length c146_0] rfl (by (try simp only [List.map_toArray, List.map_cons, List.map_nil]); first | done | rfl | (simp only [List.length_drop, List.length_take]; rfl)) ?_; (with_reducible refine (semigroupref03_Same.calls kj15 _ _ l0 _ _ (rd_L1 t142 x21_2) true _ ?side1 ?side2 ?side3 ?side4 A28.out).mono ?_); (case side1 => repeat (first | exact (Kd.C_below HR0.out HB.out) | (with_reducible refine Kd.C_alloc ?_ _) | (with_reducible refine Kd.C_drewN ?_ _) | (with_reducible refine Kd.C_drew ?_))); (case side2 => exact HC0.out); (case side3 => repeat (first | exact (by repeat (first | (with_reducible exact HR146_0.out) | (with_reducible refine Kd.C_alloc ?_ _) | (with_reducible refine Kd.C_drewN ?_ _) | (with_reducible refine Kd.C_drew ?_) | exact HR146_0.out)) | (with_reducible refine Kd.C_alloc ?_ _) | (with_reducible refine Kd.C_drewN ?_ _) | (with_reducible refine Kd.C_drew ?_))); (case side4 => exact HC146_0.out); rintro e w' ⟨rfl, ⟨nd, rfl⟩⟩; refine ⟨_, rfl, ?_⟩))
                          go_roundg kj15
                          case measure => have := HJ1.out; have := HK2.out; have := HJ15.out; omega
                          case rel => exact ⟨(wrap64 (x3_2 + 1)), (wrap64 (x21_2 + 1)), (by first | rfl | (simp; done) | (simp [*]; done)), (by first | rfl | (simp; done) | (simp [*]; done)), H', ⟨by have := HJ1.out; have := HK2.out; have := HJ15.out; omega⟩, ⟨by (with_reducible repeat (first | apply Kd.N_alloc | apply Kd.N_drewN | apply Kd.N_drew)); exact HO_4.out⟩, ⟨by (with_reducible repeat (first | apply Kd.N_alloc | apply Kd.N_drewN | apply Kd.N_drew)); exact HO_19.out⟩, ⟨by repeat (first | (with_reducible first | exact HB.out | apply below_alloc | apply pw_below_drewN | apply below_drew1) | exact HB.out)⟩⟩
                        · replace c29 := Bool.eq_false_iff.mpr c29
                          subst c29
                          have H1 : (semigrouplaw03_PartitionListed.l0 kj15 l0 x3_2 t142 t142 (t142.length : Int) (wrap64 (x21_2 + 1))) = some r := by rw [if_neg (show ¬ (false = true) by decide)] at H; exact H
                          clear H
                          have H := H1
                          clear H1
                          have H' := Aside0.mk H
                          clear H
                          go_wp2_with (first | ((with_reducible refine gate_callee (f := 16) rfl ?_); refine goesL_ (some 52) rfl rfl Try.func16 (by kernel_rfl) rfl #[.slice A0 l0.length c0, .slice A146_0 (rd_L1 t142 x21_2).length c146_0] rfl (by (try simp only [List.map_toArray, List.map_cons, List.map_nil]); first | done | rfl | (simp only [List.length_drop, List.length_take]; rfl)) ?_; (with_reducible refine (semigroupref03_Same.calls kj15 _ _ l0 _ _ (rd_L1 t142 x21_2) false _ ?side1 ?side2 ?side3 ?side4 A28.out).mono ?_); (case side1 => repeat (first | exact (Kd.C_below HR0.out HB.out) | (with_reducible refine Kd.C_alloc ?_ _) | (with_reducible refine Kd.C_drewN ?_ _) | (with_reducible refine Kd.C_drew ?_))); (case side2 => exact HC0.out); (case side3 => repeat (first | exact (by repeat (first | (with_reducible exact HR146_0.out) | (with_reducible refine Kd.C_alloc ?_ _) | (with_reducible refine Kd.C_drewN ?_ _) | (with_reducible refine Kd.C_drew ?_) | exact HR146_0.out)) | (with_reducible refine Kd.C_alloc ?_ _) | (with_reducible refine Kd.C_drewN ?_ _) | (with_reducible refine Kd.C_drew ?_))); (case side4 => exact HC146_0.out); rintro e w' ⟨rfl, ⟨nd, rfl⟩⟩; refine ⟨_, rfl, ?_⟩))
                          go_roundg kj15
                          case measure => have := HJ1.out; have := HK2.out; have := HJ15.out; omega
                          case rel => exact ⟨(x3_2), (wrap64 (x21_2 + 1)), (by first | rfl | (simp; done) | (simp [*]; done)), (by first | rfl | (simp; done) | (simp [*]; done)), H', ⟨by have := HJ1.out; have := HK2.out; have := HJ15.out; omega⟩, ⟨by (with_reducible repeat (first | apply Kd.N_alloc | apply Kd.N_drewN | apply Kd.N_drew)); exact HO_4.out⟩, ⟨by (with_reducible repeat (first | apply Kd.N_alloc | apply Kd.N_drewN | apply Kd.N_drew)); exact HO_19.out⟩, ⟨by repeat (first | (with_reducible first | exact HB.out | apply below_alloc | apply pw_below_drewN | apply below_drew1) | exact HB.out)⟩⟩
                · rw [if_neg c15] at H
                  exact absurd H (by simp)
              · rw [if_neg c14] at H
                exact absurd H (by simp)
            · rw [if_neg c13] at H
              have c13b0 : decide (x21_2 < (t142.length : Int)) = false := decide_eq_false c13
              clear c13
              by_cases c30 : x3_2 = 1
              · rw [if_pos c30] at H
                have c30b0 : (x3_2 == 1) = true := beq_iff_eq.mpr c30
                have c30b1 : (x3_2 != 1) = false := bne_eq_false_iff_eq.mpr c30
                clear c30
                replace H := Option.bind_eq_some_iff.mp H
                obtain ⟨t145, A310, H⟩ := H
                replace H : (some t145) = some r := H
                have A31 := Aside0.mk A310
                clear A310
                obtain rfl := Option.some.inj H
                go_wp2_with (first | (go_at_call 20; (with_reducible refine (semigrouplaw03_awake.calls k2  t145 _ A31.out).mono ?_); rintro e w32 ⟨rfl, hb⟩; have n0_ := Aside0.mk (Kd.N_below (by (with_reducible repeat (first | apply Kd.N_alloc | apply Kd.N_drewN | apply Kd.N_drew)); exact HO_4.out) hb); have n1_ := Aside0.mk (Kd.N_below (by (with_reducible repeat (first | apply Kd.N_alloc | apply Kd.N_drewN | apply Kd.N_drew)); exact HO_19.out) hb); have n2_ := Aside0.mk (below_step (by repeat (first | (with_reducible first | exact HB.out | apply below_alloc | apply pw_below_drewN | apply below_drew1) | exact HB.out)) hb); clear HO_4; clear HO_19; clear HB; have HO_4 := n0_; have HO_19 := n1_; have HB := n2_; clear n0_ n1_ n2_; (try clear hb); (try clear hb2); (try clear hk); (try clear hi)))
                go_ret
                exact ⟨by first | rfl | (simp [errW_none, errW_some] <;> rfl) | (simp [*, errW_none, errW_some] <;> rfl), by repeat (first | (with_reducible first | exact HB.out | apply below_alloc | apply pw_below_drewN | apply below_drew1) | exact HB.out)⟩
              · rw [if_neg c30] at H
                have c30b0 : (x3_2 == 1) = false := beq_eq_false_iff_ne.mpr c30
                have c30b1 : (x3_2 != 1) = true := bne_iff_ne.mpr c30
                obtain rfl := Option.some.inj H
                go_wp2
                go_ret
                exact ⟨by first | rfl | (simp [errW_none, errW_some] <;> rfl) | (simp [*, errW_none, errW_some] <;> rfl), by repeat (first | (with_reducible first | exact HB.out | apply below_alloc | apply pw_below_drewN | apply below_drew1) | exact HB.out)⟩

/-- THE ONE PURE STATEMENT of semigrouplaw03_PartitionListed: yours. -/
def semigrouplaw03_PartitionListed.Pure : Prop := ∀ (l0 : List Int), l0.length ≤ maxLen → l0.length * 8 ≤ 140737488351232 → (∀ x ∈ l0, (Lit.int .i64 x).wf = true) → ∃ k, semigrouplaw03_PartitionListed.f k l0 = some true
theorem semigrouplaw03_PartitionListed.walk (P : semigrouplaw03_PartitionListed.Pure) (a0 : Option Addr) (len0 cap0 : Nat) (z0 : List Int) (w : World) (w0 : (a0 = none ∧ len0 = 0 ∧ cap0 = 0 ∧ z0 = []) ∨ ∃ x, a0 = some x ∧ len0 ≤ cap0 ∧ cap0 ≤ maxLen ∧ z0.length = cap0 ∧ (∀ i, i < z0.length → w.cell? (x.add i) = some (.int .i64 (z0.getD i 0))) ∧ ∀ n ∈ z0, (Lit.int .i64 n).wf = true) (y0 : len0 * 8 ≤ 140737488351232) :
    Calls Try.prog 9 #[.slice a0 len0 cap0] w fun e w' => e = .returned (.bool true) ∧ Below w.heap.size w w' := by
  obtain ⟨l0, rfl, hr0, hm0, hw0, hc0⟩ := ReadsInt.ofRowC w0
  obtain ⟨k, h⟩ := P l0 hm0 y0 hw0
  refine (semigrouplaw03_PartitionListed.calls k _ _ l0 true w (Kd.C_of_reads (d := (0 : Int)) (h1 := fun _ => rfl) hr0) hc0 h).mono ?_
  rintro e w' ⟨rfl, hd⟩
  exact ⟨rfl, hd⟩

end Go.Proofs.Ytjpghckijecdcaa.PPartitionListed
