-- by hp.py of this repo, over the kit's print: Lean checks it
import Derived.Test.YtaiiohnjlockkaaPRewriteReducesx0
import Derived.Test.YtaiiohnjlockkaaPRewriteReducesx1
import Derived.Test.YtaiiohnjlockkaaPRewriteReducesx3
namespace Go.Proofs.Ytaiiohnjlockkaa.PRewriteReduces
open Go.RowKit Go.Proofs.YtaiiohnjlockkaaW.PrintWords Go.Proofs.YtaiiohnjlockkaaW.PrintLast Go.Proofs.YtaiiohnjlockkaaW.PrintMore
attribute [local go_sem] max2_int min2_int max_two min_two max_three min_three max_four min_four   -- for this text's walks alone
set_option linter.unusedVariables false
set_option linter.unusedSimpArgs false

/-! ### semigrouplaw13_RewriteReduces: function 4 -/
mutual
def semigrouplaw13_RewriteReduces.j0 : Nat → List (S41) → ByteArray → ByteArray → Int → Bool → Int → Bool → Option (Bool)
  | 0, _, _, _, _, _, _, _ => none
  | k + 1, x0, x1, x5, x6, x7, x8, x28 => if x28 = true then (if x8 = 0 then (if x6 = 1 then (if x5.toList = ([] : List UInt8) then (if x7 = true then (some false) else ((semigrouplaw13_awake.f k).bind fun t138 => (some t138))) else (some false)) else (some false)) else (if x6 = x8 then (if x5.toList = ([] : List UInt8) then (if x7 = true then (some false) else ((semigrouplaw13_awake.f k).bind fun t139 => (some t139))) else (some false)) else (some false))) else (if (x0.length : Int) > 20 then (semigrouplaw13_RewriteReduces.j1 k x0 x1 x5 x6 x7 true) else (semigrouplaw13_RewriteReduces.j1 k x0 x1 x5 x6 x7 (decide ((x1.size : Int) > 10))))
def semigrouplaw13_RewriteReduces.j1 : Nat → List (S41) → ByteArray → ByteArray → Int → Bool → Bool → Option (Bool)
  | 0, _, _, _, _, _, _ => none
  | k + 1, x0, x1, x5, x6, x7, x52 => if x52 = true then ((semigrouplaw13_awake.f k).bind fun t140 => (some t140)) else ((semigroupref13_Reduce.f k x0 x1).bind fun bt141 => (if x6 = bt141.2 then (if x5.toList = bt141.1.toList then ((semigroupref13_Reduced.f x0 x1).bind fun t143 => (if (x7 == t143) = true then ((semigrouplaw13_awake.f k).bind fun t144 => (some t144)) else (some false))) else (some false)) else (some false)))
end
def semigrouplaw13_RewriteReduces.f (k : Nat) (l0 : List (S41)) (a1 : ByteArray) : Option (Bool) := (rewrite_Reduce.f k l0 a1).bind fun bt133 => ((rewrite_Reduced.f k l0 a1).bind fun t135 => ((semigroupref13_Validate.f k l0 6).bind fun t136 => (if t136 = 0 then ((semigroupref01_Valid.f k a1 6).bind fun t137 => (semigrouplaw13_RewriteReduces.j0 k l0 a1 bt133.1 bt133.2 t135 t136 (!t137))) else (semigrouplaw13_RewriteReduces.j0 k l0 a1 bt133.1 bt133.2 t135 t136 true))))
theorem semigrouplaw13_RewriteReduces.mono_l : ∀ k, (∀ y0 y1 y2 y3 y4 y5 y6, LeO (semigrouplaw13_RewriteReduces.j0 k y0 y1 y2 y3 y4 y5 y6) (semigrouplaw13_RewriteReduces.j0 (k + 1) y0 y1 y2 y3 y4 y5 y6)) ∧ (∀ y0 y1 y2 y3 y4 y5, LeO (semigrouplaw13_RewriteReduces.j1 k y0 y1 y2 y3 y4 y5) (semigrouplaw13_RewriteReduces.j1 (k + 1) y0 y1 y2 y3 y4 y5))
  | 0 => ⟨fun _ _ _ _ _ _ _ r h => by simp [semigrouplaw13_RewriteReduces.j0] at h, fun _ _ _ _ _ _ r h => by simp [semigrouplaw13_RewriteReduces.j1] at h⟩
  | k + 1 => by
    obtain ⟨ih0, ih1⟩ := semigrouplaw13_RewriteReduces.mono_l k
    refine ⟨?_, ?_⟩
    · intro y0 y1 y2 y3 y4 y5 y6
      unfold semigrouplaw13_RewriteReduces.j0
      repeat' first
      | (with_reducible exact ih0 _ _ _ _ _ _ _)
      | (with_reducible exact ih1 _ _ _ _ _ _)
      | (with_reducible exact rewrite_Reduce.mono _ _ _)
      | (with_reducible exact rewrite_Reduced.mono _ _ _)
      | (with_reducible exact semigrouplaw13_awake.mono _)
      | (with_reducible exact semigroupref01_Valid.mono _ _ _)
      | (with_reducible exact semigroupref13_Reduce.mono _ _ _)
      | (with_reducible exact semigroupref13_Validate.mono _ _ _)
      | (with_reducible exact LeO.refl _)
      | (with_reducible exact LeO.none _)
      | (with_reducible refine LeO.ite ?_ ?_)
      | (with_reducible refine LeO.bind ?_ (fun _ => ?_))
      | exact ih0 _ _ _ _ _ _ _
      | exact ih1 _ _ _ _ _ _
      | exact rewrite_Reduce.mono _ _ _
      | exact rewrite_Reduced.mono _ _ _
      | exact semigrouplaw13_awake.mono _
      | exact semigroupref01_Valid.mono _ _ _
      | exact semigroupref13_Reduce.mono _ _ _
      | exact semigroupref13_Validate.mono _ _ _
      | exact LeO.none _
      | refine LeO.ite ?_ ?_
      | refine LeO.bind ?_ (fun _ => ?_)
    · intro y0 y1 y2 y3 y4 y5
      unfold semigrouplaw13_RewriteReduces.j1
      repeat' first
      | (with_reducible exact ih0 _ _ _ _ _ _ _)
      | (with_reducible exact ih1 _ _ _ _ _ _)
      | (with_reducible exact rewrite_Reduce.mono _ _ _)
      | (with_reducible exact rewrite_Reduced.mono _ _ _)
      | (with_reducible exact semigrouplaw13_awake.mono _)
      | (with_reducible exact semigroupref01_Valid.mono _ _ _)
      | (with_reducible exact semigroupref13_Reduce.mono _ _ _)
      | (with_reducible exact semigroupref13_Validate.mono _ _ _)
      | (with_reducible exact LeO.refl _)
      | (with_reducible exact LeO.none _)
      | (with_reducible refine LeO.ite ?_ ?_)
      | (with_reducible refine LeO.bind ?_ (fun _ => ?_))
      | exact ih0 _ _ _ _ _ _ _
      | exact ih1 _ _ _ _ _ _
      | exact rewrite_Reduce.mono _ _ _
      | exact rewrite_Reduced.mono _ _ _
      | exact semigrouplaw13_awake.mono _
      | exact semigroupref01_Valid.mono _ _ _
      | exact semigroupref13_Reduce.mono _ _ _
      | exact semigroupref13_Validate.mono _ _ _
      | exact LeO.none _
      | refine LeO.ite ?_ ?_
      | refine LeO.bind ?_ (fun _ => ?_)
theorem semigrouplaw13_RewriteReduces.mono : ∀ a0 a1 k, LeO (semigrouplaw13_RewriteReduces.f k a0 a1) (semigrouplaw13_RewriteReduces.f (k + 1) a0 a1) := by
  intro a0 a1 k
  obtain ⟨ih0, ih1⟩ := semigrouplaw13_RewriteReduces.mono_l k
  unfold semigrouplaw13_RewriteReduces.f
  repeat' first
      | (with_reducible exact ih0 _ _ _ _ _ _ _)
      | (with_reducible exact ih1 _ _ _ _ _ _)
      | (with_reducible exact rewrite_Reduce.mono _ _ _)
      | (with_reducible exact rewrite_Reduced.mono _ _ _)
      | (with_reducible exact semigrouplaw13_awake.mono _)
      | (with_reducible exact semigroupref01_Valid.mono _ _ _)
      | (with_reducible exact semigroupref13_Reduce.mono _ _ _)
      | (with_reducible exact semigroupref13_Validate.mono _ _ _)
      | (with_reducible exact LeO.refl _)
      | (with_reducible exact LeO.none _)
      | (with_reducible refine LeO.ite ?_ ?_)
      | (with_reducible refine LeO.bind ?_ (fun _ => ?_))
      | exact ih0 _ _ _ _ _ _ _
      | exact ih1 _ _ _ _ _ _
      | exact rewrite_Reduce.mono _ _ _
      | exact rewrite_Reduced.mono _ _ _
      | exact semigrouplaw13_awake.mono _
      | exact semigroupref01_Valid.mono _ _ _
      | exact semigroupref13_Reduce.mono _ _ _
      | exact semigroupref13_Validate.mono _ _ _
      | exact LeO.none _
      | refine LeO.ite ?_ ?_
      | refine LeO.bind ?_ (fun _ => ?_)
set_option maxHeartbeats 8000000 in
set_option maxRecDepth 100000 in
theorem semigrouplaw13_RewriteReduces.calls (k : Nat) (A0 : Option Addr) (c0 : Nat) (l0 : List (S41)) (a1 : ByteArray) (r : Bool) (w : World) (hr0 : Kd.C k41 w A0 l0.length l0) (hc0 : l0.length ≤ c0) (h : semigrouplaw13_RewriteReduces.f k l0 a1 = some r) :
    Calls Try.prog 4 #[.slice A0 l0.length c0, .string a1] w fun e w' => e = .returned (.bool r) ∧ Below w.heap.size w w' := by
  have HR0 := Aside0.mk hr0
  have HC0 := Aside0.mk hc0
  clear hr0 hc0
  have HB := Aside0.mk (Below.refl w.heap.size w)
  have H : ((rewrite_Reduce.f k l0 a1).bind fun bt133 => ((rewrite_Reduced.f k l0 a1).bind fun t135 => ((semigroupref13_Validate.f k l0 6).bind fun t136 => (if t136 = 0 then ((semigroupref01_Valid.f k a1 6).bind fun t137 => (semigrouplaw13_RewriteReduces.j0 k l0 a1 bt133.1 bt133.2 t135 t136 (!t137))) else (semigrouplaw13_RewriteReduces.j0 k l0 a1 bt133.1 bt133.2 t135 t136 true))))) = some r := h
  clear h
  replace H := Option.bind_eq_some_iff.mp H
  obtain ⟨⟨t133, t134⟩, A30, H⟩ := H
  replace H : ((rewrite_Reduced.f k l0 a1).bind fun t135 => ((semigroupref13_Validate.f k l0 6).bind fun t136 => (if t136 = 0 then ((semigroupref01_Valid.f k a1 6).bind fun t137 => (semigrouplaw13_RewriteReduces.j0 k l0 a1 t133 t134 t135 t136 (!t137))) else (semigrouplaw13_RewriteReduces.j0 k l0 a1 t133 t134 t135 t136 true)))) = some r := H
  have A3 := Aside0.mk A30
  clear A30
  replace H := Option.bind_eq_some_iff.mp H
  obtain ⟨t135, A40, H⟩ := H
  replace H : ((semigroupref13_Validate.f k l0 6).bind fun t136 => (if t136 = 0 then ((semigroupref01_Valid.f k a1 6).bind fun t137 => (semigrouplaw13_RewriteReduces.j0 k l0 a1 t133 t134 t135 t136 (!t137))) else (semigrouplaw13_RewriteReduces.j0 k l0 a1 t133 t134 t135 t136 true))) = some r := H
  have A4 := Aside0.mk A40
  clear A40
  replace H := Option.bind_eq_some_iff.mp H
  obtain ⟨t136, A50, H⟩ := H
  replace H : (if t136 = 0 then ((semigroupref01_Valid.f k a1 6).bind fun t137 => (semigrouplaw13_RewriteReduces.j0 k l0 a1 t133 t134 t135 t136 (!t137))) else (semigrouplaw13_RewriteReduces.j0 k l0 a1 t133 t134 t135 t136 true)) = some r := H
  have A5 := Aside0.mk A50
  clear A50
  have HC6 := Aside0.mk H
  clear H
  go_enter Try.func4, Try.ntmps4
  go_upto_region 4 with (first | ((with_reducible refine gate_callee (f := 16) rfl ?_); refine goesL_ (some 14) rfl rfl Try.func16 (by kernel_rfl) rfl #[.slice A0 l0.length c0, .string a1] rfl (by (try simp only [List.map_toArray, List.map_cons, List.map_nil]); first | done | rfl | (simp only [List.length_drop, List.length_take]; rfl)) ?_; (with_reducible refine (rewrite_Reduce.calls k _ _ l0 a1 t133 t134 _ ?side1 ?side2 A3.out).mono ?_); (case side1 => repeat (first | exact HR0.out | (with_reducible refine Kd.C_alloc ?_ _) | (with_reducible refine Kd.C_drewN ?_ _) | (with_reducible refine Kd.C_drew ?_))); (case side2 => exact HC0.out); rintro e w7 ⟨rfl, hb⟩; refine ⟨_, rfl, ?_⟩; have n0_ := Aside0.mk (below_step (by repeat (first | (with_reducible first | exact HB.out | apply below_alloc | apply pw_below_drewN | apply below_drew1) | exact HB.out)) hb); clear HB; have HB := n0_; clear n0_; (try clear hb); (try clear hb2); (try clear hk); (try clear hi)) | ((with_reducible refine gate_callee (f := 17) rfl ?_); refine goesL_ (some 19) rfl rfl Try.func17 (by kernel_rfl) rfl #[.slice A0 l0.length c0, .string a1] rfl (by (try simp only [List.map_toArray, List.map_cons, List.map_nil]); first | done | rfl | (simp only [List.length_drop, List.length_take]; rfl)) ?_; (with_reducible refine (rewrite_Reduced.calls k _ _ l0 a1 t135 _ ?side1 ?side2 A4.out).mono ?_); (case side1 => repeat (first | exact (Kd.C_below HR0.out HB.out) | (with_reducible refine Kd.C_alloc ?_ _) | (with_reducible refine Kd.C_drewN ?_ _) | (with_reducible refine Kd.C_drew ?_))); (case side2 => exact HC0.out); rintro e w8 ⟨rfl, hb⟩; refine ⟨_, rfl, ?_⟩; have n0_ := Aside0.mk (below_step (by repeat (first | (with_reducible first | exact HB.out | apply below_alloc | apply pw_below_drewN | apply below_drew1) | exact HB.out)) hb); clear HB; have HB := n0_; clear n0_; (try clear hb); (try clear hb2); (try clear hk); (try clear hi)) | ((with_reducible refine gate_callee (f := 14) rfl ?_); refine goesL_ (some 21) rfl rfl Try.func14 (by kernel_rfl) rfl #[.slice A0 l0.length c0, .int .i64 6] rfl (by (try simp only [List.map_toArray, List.map_cons, List.map_nil]); first | done | rfl | (simp only [List.length_drop, List.length_take]; rfl)) ?_; (with_reducible refine (semigroupref13_Validate.calls k _ _ l0 6 t136 _ ?side1 ?side2 A5.out).mono ?_); (case side1 => repeat (first | exact (Kd.C_below HR0.out HB.out) | (with_reducible refine Kd.C_alloc ?_ _) | (with_reducible refine Kd.C_drewN ?_ _) | (with_reducible refine Kd.C_drew ?_))); (case side2 => exact HC0.out); rintro e w9 ⟨rfl, hb⟩; refine ⟨_, rfl, ?_⟩; have n0_ := Aside0.mk (below_step (by repeat (first | (with_reducible first | exact HB.out | apply below_alloc | apply pw_below_drewN | apply below_drew1) | exact HB.out)) hb); clear HB; have HB := n0_; clear n0_; (try clear hb); (try clear hb2); (try clear hk); (try clear hi)))
  (try simp only [Act.put, List.setIfInBounds_toArray, List.set_cons_zero, List.set_cons_succ])
  go_cut [28] (fun v28 wc => ∃ (kq : Nat) (x28_5 : Bool), v28 = .bool x28_5 ∧ Aside0 (semigrouplaw13_RewriteReduces.j0 kq l0 a1 t133 t134 t135 t136 x28_5 = some r) ∧ Aside0 (kq ≤ k) ∧ Aside0 (Below w.heap.size w wc))
  case first =>
    have H := HC6.out
    clear HC6
    by_cases c10 : t136 = 0
    · rw [if_pos c10] at H
      have c10b0 : (t136 == 0) = true := beq_iff_eq.mpr c10
      have c10b1 : (t136 != 0) = false := bne_eq_false_iff_eq.mpr c10
      clear c10
      (first | rw [c10b0] | (simp only [i64_w, i32_w]; rw [c10b0]) | skip)
      replace H := Option.bind_eq_some_iff.mp H
      obtain ⟨t137, A110, H⟩ := H
      replace H : (semigrouplaw13_RewriteReduces.j0 k l0 a1 t133 t134 t135 t136 (!t137)) = some r := H
      have A11 := Aside0.mk A110
      clear A110
      have H' := Aside0.mk H
      clear H
      go_wp2_with (first | (go_at_call 18; (with_reducible refine (semigroupref01_Valid.calls k a1 6 t137 _ A11.out).mono ?_); rintro e w' ⟨rfl, ⟨nd, rfl⟩⟩))
      go_meet
      case rel => exact ⟨_, (!t137), (by first | rfl | (simp; done) | (simp [*]; done)), H', ⟨by first | omega | exact Nat.le_refl _⟩, ⟨by repeat (first | (with_reducible first | exact HB.out | apply below_alloc | apply pw_below_drewN | apply below_drew1) | exact HB.out)⟩⟩
    · rw [if_neg c10] at H
      have c10b0 : (t136 == 0) = false := beq_eq_false_iff_ne.mpr c10
      have c10b1 : (t136 != 0) = true := bne_iff_ne.mpr c10
      (first | rw [c10b0] | (simp only [i64_w, i32_w]; rw [c10b0]) | skip)
      have H' := Aside0.mk H
      clear H
      go_wp2
      go_meet
      case rel => exact ⟨_, (true), (by first | rfl | (simp; done) | (simp [*]; done)), H', ⟨by first | omega | exact Nat.le_refl _⟩, ⟨by repeat (first | (with_reducible first | exact HB.out | apply below_alloc | apply pw_below_drewN | apply below_drew1) | exact HB.out)⟩⟩
  case rest =>
    clear HC6
    try clear c1
    try clear p2
    try clear c4
    try clear c10
    try clear c10b0
    try clear c10b1
    obtain ⟨kq, x28_5, rfl, HA, HJ5, HB⟩ := hcut
    cases kq with
    | zero => exact absurd HA.out (by simp [semigrouplaw13_RewriteReduces.j0])
    | succ kj5 =>
      have H := HA.out
      clear HA
      simp only [semigrouplaw13_RewriteReduces.j0] at H
      by_cases c12 : x28_5 = true
      · subst c12
        have H1 : (if t136 = 0 then (if t134 = 1 then (if t133.toList = ([] : List UInt8) then (if t135 = true then (some false) else ((semigrouplaw13_awake.f kj5).bind fun t138 => (some t138))) else (some false)) else (some false)) else (if t134 = t136 then (if t133.toList = ([] : List UInt8) then (if t135 = true then (some false) else ((semigrouplaw13_awake.f kj5).bind fun t139 => (some t139))) else (some false)) else (some false))) = some r := by rw [if_pos rfl] at H; exact H
        clear H
        have H := H1
        clear H1
        by_cases c13 : t136 = 0
        · rw [if_pos c13] at H
          have c13b0 : (t136 == 0) = true := beq_iff_eq.mpr c13
          have c13b1 : (t136 != 0) = false := bne_eq_false_iff_eq.mpr c13
          clear c13
          by_cases c14 : t134 = 1
          · rw [if_pos c14] at H
            have c14b0 : (t134 == 1) = true := beq_iff_eq.mpr c14
            have c14b1 : (t134 != 1) = false := bne_eq_false_iff_eq.mpr c14
            clear c14
            by_cases c15 : t133.toList = ([] : List UInt8)
            · rw [if_pos c15] at H
              have c15b0 : (t133.toList == ([] : List UInt8)) = true := beq_iff_eq.mpr c15
              have c15b1 : (t133.toList != ([] : List UInt8)) = false := bne_eq_false_iff_eq.mpr c15
              clear c15
              by_cases c16 : t135 = true
              · subst c16
                have H1 : (some false) = some r := by rw [if_pos rfl] at H; exact H
                clear H
                have H := H1
                clear H1
                obtain rfl := Option.some.inj H
                go_wp2
                go_ret
                exact ⟨by first | rfl | (simp [errW_none, errW_some] <;> rfl) | (simp [*, errW_none, errW_some] <;> rfl), by repeat (first | (with_reducible first | exact HB.out | apply below_alloc | apply pw_below_drewN | apply below_drew1) | exact HB.out)⟩
              · replace c16 := Bool.eq_false_iff.mpr c16
                subst c16
                have H1 : ((semigrouplaw13_awake.f kj5).bind fun t138 => (some t138)) = some r := by rw [if_neg (show ¬ (false = true) by decide)] at H; exact H
                clear H
                have H := H1
                clear H1
                replace H := Option.bind_eq_some_iff.mp H
                obtain ⟨t138, A170, H⟩ := H
                replace H : (some t138) = some r := H
                have A17 := Aside0.mk A170
                clear A170
                obtain rfl := Option.some.inj H
                go_wp2_with (first | (go_at_call 15; (with_reducible refine (semigrouplaw13_awake.calls kj5  t138 _ A17.out).mono ?_); rintro e w18 ⟨rfl, hb⟩; have n0_ := Aside0.mk (below_step (by repeat (first | (with_reducible first | exact HB.out | apply below_alloc | apply pw_below_drewN | apply below_drew1) | exact HB.out)) hb); clear HB; have HB := n0_; clear n0_; (try clear hb); (try clear hb2); (try clear hk); (try clear hi)))
                go_ret
                exact ⟨by first | rfl | (simp [errW_none, errW_some] <;> rfl) | (simp [*, errW_none, errW_some] <;> rfl), by repeat (first | (with_reducible first | exact HB.out | apply below_alloc | apply pw_below_drewN | apply below_drew1) | exact HB.out)⟩
            · rw [if_neg c15] at H
              have c15b0 : (t133.toList == ([] : List UInt8)) = false := beq_eq_false_iff_ne.mpr c15
              have c15b1 : (t133.toList != ([] : List UInt8)) = true := bne_iff_ne.mpr c15
              obtain rfl := Option.some.inj H
              go_wp2
              go_ret
              exact ⟨by first | rfl | (simp [errW_none, errW_some] <;> rfl) | (simp [*, errW_none, errW_some] <;> rfl), by repeat (first | (with_reducible first | exact HB.out | apply below_alloc | apply pw_below_drewN | apply below_drew1) | exact HB.out)⟩
          · rw [if_neg c14] at H
            have c14b0 : (t134 == 1) = false := beq_eq_false_iff_ne.mpr c14
            have c14b1 : (t134 != 1) = true := bne_iff_ne.mpr c14
            obtain rfl := Option.some.inj H
            go_wp2
            go_ret
            exact ⟨by first | rfl | (simp [errW_none, errW_some] <;> rfl) | (simp [*, errW_none, errW_some] <;> rfl), by repeat (first | (with_reducible first | exact HB.out | apply below_alloc | apply pw_below_drewN | apply below_drew1) | exact HB.out)⟩
        · rw [if_neg c13] at H
          have c13b0 : (t136 == 0) = false := beq_eq_false_iff_ne.mpr c13
          have c13b1 : (t136 != 0) = true := bne_iff_ne.mpr c13
          by_cases c19 : t134 = t136
          · rw [if_pos c19] at H
            have c19b0 : (t134 == t136) = true := beq_iff_eq.mpr c19
            have c19b1 : (t134 != t136) = false := bne_eq_false_iff_eq.mpr c19
            clear c19
            by_cases c20 : t133.toList = ([] : List UInt8)
            · rw [if_pos c20] at H
              have c20b0 : (t133.toList == ([] : List UInt8)) = true := beq_iff_eq.mpr c20
              have c20b1 : (t133.toList != ([] : List UInt8)) = false := bne_eq_false_iff_eq.mpr c20
              clear c20
              by_cases c21 : t135 = true
              · subst c21
                have H1 : (some false) = some r := by rw [if_pos rfl] at H; exact H
                clear H
                have H := H1
                clear H1
                obtain rfl := Option.some.inj H
                go_wp2
                go_ret
                exact ⟨by first | rfl | (simp [errW_none, errW_some] <;> rfl) | (simp [*, errW_none, errW_some] <;> rfl), by repeat (first | (with_reducible first | exact HB.out | apply below_alloc | apply pw_below_drewN | apply below_drew1) | exact HB.out)⟩
              · replace c21 := Bool.eq_false_iff.mpr c21
                subst c21
                have H1 : ((semigrouplaw13_awake.f kj5).bind fun t139 => (some t139)) = some r := by rw [if_neg (show ¬ (false = true) by decide)] at H; exact H
                clear H
                have H := H1
                clear H1
                replace H := Option.bind_eq_some_iff.mp H
                obtain ⟨t139, A220, H⟩ := H
                replace H : (some t139) = some r := H
                have A22 := Aside0.mk A220
                clear A220
                obtain rfl := Option.some.inj H
                go_wp2_with (first | (go_at_call 15; (with_reducible refine (semigrouplaw13_awake.calls kj5  t139 _ A22.out).mono ?_); rintro e w23 ⟨rfl, hb⟩; have n0_ := Aside0.mk (below_step (by repeat (first | (with_reducible first | exact HB.out | apply below_alloc | apply pw_below_drewN | apply below_drew1) | exact HB.out)) hb); clear HB; have HB := n0_; clear n0_; (try clear hb); (try clear hb2); (try clear hk); (try clear hi)))
                go_ret
                exact ⟨by first | rfl | (simp [errW_none, errW_some] <;> rfl) | (simp [*, errW_none, errW_some] <;> rfl), by repeat (first | (with_reducible first | exact HB.out | apply below_alloc | apply pw_below_drewN | apply below_drew1) | exact HB.out)⟩
            · rw [if_neg c20] at H
              have c20b0 : (t133.toList == ([] : List UInt8)) = false := beq_eq_false_iff_ne.mpr c20
              have c20b1 : (t133.toList != ([] : List UInt8)) = true := bne_iff_ne.mpr c20
              obtain rfl := Option.some.inj H
              go_wp2
              go_ret
              exact ⟨by first | rfl | (simp [errW_none, errW_some] <;> rfl) | (simp [*, errW_none, errW_some] <;> rfl), by repeat (first | (with_reducible first | exact HB.out | apply below_alloc | apply pw_below_drewN | apply below_drew1) | exact HB.out)⟩
          · rw [if_neg c19] at H
            have c19b0 : (t134 == t136) = false := beq_eq_false_iff_ne.mpr c19
            have c19b1 : (t134 != t136) = true := bne_iff_ne.mpr c19
            obtain rfl := Option.some.inj H
            go_wp2
            go_ret
            exact ⟨by first | rfl | (simp [errW_none, errW_some] <;> rfl) | (simp [*, errW_none, errW_some] <;> rfl), by repeat (first | (with_reducible first | exact HB.out | apply below_alloc | apply pw_below_drewN | apply below_drew1) | exact HB.out)⟩
      · replace c12 := Bool.eq_false_iff.mpr c12
        subst c12
        have H1 : (if (l0.length : Int) > 20 then (semigrouplaw13_RewriteReduces.j1 kj5 l0 a1 t133 t134 t135 true) else (semigrouplaw13_RewriteReduces.j1 kj5 l0 a1 t133 t134 t135 (decide ((a1.size : Int) > 10)))) = some r := by rw [if_neg (show ¬ (false = true) by decide)] at H; exact H
        clear H
        have H := H1
        clear H1
        have HC24 := Aside0.mk H
        clear H
        go_upto_region 8 with (fail)
        go_cut [52] (fun v52 wc => ∃ (kq : Nat) (x52_23 : Bool), v52 = .bool x52_23 ∧ Aside0 (semigrouplaw13_RewriteReduces.j1 kq l0 a1 t133 t134 t135 x52_23 = some r) ∧ Aside0 (kq ≤ kj5) ∧ Aside0 (Below w.heap.size w wc))
        case first =>
          have H := HC24.out
          clear HC24
          by_cases c25 : (l0.length : Int) > 20
          · rw [if_pos c25] at H
            have c25b0 : decide (20 < (l0.length : Int)) = true := decide_eq_true c25
            have c25b1 : decide (20 < l0.length) = true := decide_eq_true (by omega)
            clear c25
            (first | rw [c25b0] | (simp only [i64_w, i32_w]; rw [c25b0]) | skip)
            have H' := Aside0.mk H
            clear H
            go_wp2
            go_meet
            case rel => exact ⟨_, (true), (by first | rfl | (simp; done) | (simp [*]; done)), H', ⟨by have := HJ5.out; first | omega | exact Nat.le_refl _⟩, ⟨by repeat (first | (with_reducible first | exact HB.out | apply below_alloc | apply pw_below_drewN | apply below_drew1) | exact HB.out)⟩⟩
          · rw [if_neg c25] at H
            have c25b0 : decide (20 < (l0.length : Int)) = false := decide_eq_false c25
            have c25b1 : decide (20 < l0.length) = false := decide_eq_false (by omega)
            clear c25
            (first | rw [c25b0] | (simp only [i64_w, i32_w]; rw [c25b0]) | skip)
            have H' := Aside0.mk H
            clear H
            go_wp2
            go_meet
            case rel => exact ⟨_, (decide ((a1.size : Int) > 10)), (by first | rfl | (simp; done) | (simp [*]; done)), H', ⟨by have := HJ5.out; first | omega | exact Nat.le_refl _⟩, ⟨by repeat (first | (with_reducible first | exact HB.out | apply below_alloc | apply pw_below_drewN | apply below_drew1) | exact HB.out)⟩⟩
        case rest =>
          clear HC24
          try clear c1
          try clear c2
          try clear p2
          try clear c4
          try clear c10
          try clear c10b0
          try clear c10b1
          try clear c12
          try clear c13
          try clear c13b0
          try clear c13b1
          try clear c14
          try clear c14b0
          try clear c14b1
          try clear c15
          try clear c15b0
          try clear c15b1
          try clear c16
          try clear c17
          try clear c19
          try clear c19b0
          try clear c19b1
          try clear c20
          try clear c20b0
          try clear c20b1
          try clear c21
          try clear c25
          try clear c25b0
          try clear c25b1
          try clear p2
          obtain ⟨kq, x52_23, rfl, HA, HJ23, HB⟩ := hcut
          cases kq with
          | zero => exact absurd HA.out (by simp [semigrouplaw13_RewriteReduces.j1])
          | succ kj23 =>
            have H := HA.out
            clear HA
            simp only [semigrouplaw13_RewriteReduces.j1] at H
            by_cases c26 : x52_23 = true
            · subst c26
              have H1 : ((semigrouplaw13_awake.f kj23).bind fun t140 => (some t140)) = some r := by rw [if_pos rfl] at H; exact H
              clear H
              have H := H1
              clear H1
              replace H := Option.bind_eq_some_iff.mp H
              obtain ⟨t140, A270, H⟩ := H
              replace H : (some t140) = some r := H
              have A27 := Aside0.mk A270
              clear A270
              obtain rfl := Option.some.inj H
              go_wp2_with (first | ((with_reducible refine gate_callee (f := 15) rfl ?_); refine goesL_ (some 53) rfl rfl Try.func15 (by kernel_rfl) rfl #[] rfl (by (try simp only [List.map_toArray, List.map_cons, List.map_nil]); first | done | rfl | (simp only [List.length_drop, List.length_take]; rfl)) ?_; (with_reducible refine (semigrouplaw13_awake.calls kj23  t140 _ A27.out).mono ?_); rintro e w28 ⟨rfl, hb⟩; refine ⟨_, rfl, ?_⟩; have n0_ := Aside0.mk (below_step (by repeat (first | (with_reducible first | exact HB.out | apply below_alloc | apply pw_below_drewN | apply below_drew1) | exact HB.out)) hb); clear HB; have HB := n0_; clear n0_; (try clear hb); (try clear hb2); (try clear hk); (try clear hi)))
              go_ret
              exact ⟨by first | rfl | (simp [errW_none, errW_some] <;> rfl) | (simp [*, errW_none, errW_some] <;> rfl), by repeat (first | (with_reducible first | exact HB.out | apply below_alloc | apply pw_below_drewN | apply below_drew1) | exact HB.out)⟩
            · replace c26 := Bool.eq_false_iff.mpr c26
              subst c26
              have H1 : ((semigroupref13_Reduce.f kj23 l0 a1).bind fun bt141 => (if t134 = bt141.2 then (if t133.toList = bt141.1.toList then ((semigroupref13_Reduced.f l0 a1).bind fun t143 => (if (t135 == t143) = true then ((semigrouplaw13_awake.f kj23).bind fun t144 => (some t144)) else (some false))) else (some false)) else (some false))) = some r := by rw [if_neg (show ¬ (false = true) by decide)] at H; exact H
              clear H
              have H := H1
              clear H1
              replace H := Option.bind_eq_some_iff.mp H
              obtain ⟨⟨t141, t142⟩, A290, H⟩ := H
              replace H : (if t134 = t142 then (if t133.toList = t141.toList then ((semigroupref13_Reduced.f l0 a1).bind fun t143 => (if (t135 == t143) = true then ((semigrouplaw13_awake.f kj23).bind fun t144 => (some t144)) else (some false))) else (some false)) else (some false)) = some r := H
              have A29 := Aside0.mk A290
              clear A290
              by_cases c30 : t134 = t142
              · rw [if_pos c30] at H
                have c30b0 : (t134 == t142) = true := beq_iff_eq.mpr c30
                have c30b1 : (t134 != t142) = false := bne_eq_false_iff_eq.mpr c30
                clear c30
                by_cases c31 : t133.toList = t141.toList
                · rw [if_pos c31] at H
                  have c31b0 : (t133.toList == t141.toList) = true := beq_iff_eq.mpr c31
                  have c31b1 : (t133.toList != t141.toList) = false := bne_eq_false_iff_eq.mpr c31
                  clear c31
                  replace H := Option.bind_eq_some_iff.mp H
                  obtain ⟨t143, A320, H⟩ := H
                  replace H : (if (t135 == t143) = true then ((semigrouplaw13_awake.f kj23).bind fun t144 => (some t144)) else (some false)) = some r := H
                  have A32 := Aside0.mk A320
                  clear A320
                  by_cases c33 : (t135 == t143) = true
                  · rw [if_pos c33] at H
                    have c33b0 : (t135 == t143) = true := c33
                    (try (have c33b1 : decide (t135 = t143) = true := by simpa using c33))
                    (try (have c33b2 : (t135 == t143) = true := by simpa using c33))
                    clear c33
                    replace H := Option.bind_eq_some_iff.mp H
                    obtain ⟨t144, A340, H⟩ := H
                    replace H : (some t144) = some r := H
                    have A34 := Aside0.mk A340
                    clear A340
                    obtain rfl := Option.some.inj H
                    go_wp2_with (first | ((with_reducible refine gate_callee (f := 19) rfl ?_); refine goesL_ (some 57) rfl rfl Try.func19 (by kernel_rfl) rfl #[.slice A0 l0.length c0, .string a1] rfl (by (try simp only [List.map_toArray, List.map_cons, List.map_nil]); first | done | rfl | (simp only [List.length_drop, List.length_take]; rfl)) ?_; (with_reducible refine (semigroupref13_Reduce.calls kj23 _ _ l0 a1 t141 t142 _ ?side1 ?side2 A29.out).mono ?_); (case side1 => repeat (first | exact (Kd.C_below HR0.out HB.out) | (with_reducible refine Kd.C_alloc ?_ _) | (with_reducible refine Kd.C_drewN ?_ _) | (with_reducible refine Kd.C_drew ?_))); (case side2 => exact HC0.out); rintro e w35 ⟨rfl, hb⟩; refine ⟨_, rfl, ?_⟩; have n0_ := Aside0.mk (below_step (by repeat (first | (with_reducible first | exact HB.out | apply below_alloc | apply pw_below_drewN | apply below_drew1) | exact HB.out)) hb); clear HB; have HB := n0_; clear n0_; (try clear hb); (try clear hb2); (try clear hk); (try clear hi)) | (go_at_call 20; (with_reducible refine (semigroupref13_Reduced.calls _ _ l0 a1 t143 _ ?side1 ?side2 A32.out).mono ?_); (case side1 => repeat (first | exact (Kd.C_below HR0.out HB.out) | (with_reducible refine Kd.C_alloc ?_ _) | (with_reducible refine Kd.C_drewN ?_ _) | (with_reducible refine Kd.C_drew ?_))); (case side2 => exact HC0.out); rintro e w36 ⟨rfl, hb⟩; have n0_ := Aside0.mk (below_step (by repeat (first | (with_reducible first | exact HB.out | apply below_alloc | apply pw_below_drewN | apply below_drew1) | exact HB.out)) hb); clear HB; have HB := n0_; clear n0_; (try clear hb); (try clear hb2); (try clear hk); (try clear hi)) | (go_at_call 15; (with_reducible refine (semigrouplaw13_awake.calls kj23  t144 _ A34.out).mono ?_); rintro e w37 ⟨rfl, hb⟩; have n0_ := Aside0.mk (below_step (by repeat (first | (with_reducible first | exact HB.out | apply below_alloc | apply pw_below_drewN | apply below_drew1) | exact HB.out)) hb); clear HB; have HB := n0_; clear n0_; (try clear hb); (try clear hb2); (try clear hk); (try clear hi)))
                    go_ret
                    exact ⟨by first | rfl | (simp [errW_none, errW_some] <;> rfl) | (simp [*, errW_none, errW_some] <;> rfl), by repeat (first | (with_reducible first | exact HB.out | apply below_alloc | apply pw_below_drewN | apply below_drew1) | exact HB.out)⟩
                  · rw [if_neg c33] at H
                    have c33b0 : (t135 == t143) = false := by simpa using c33
                    (try (have c33b1 : decide (t135 = t143) = false := by simpa using c33))
                    (try (have c33b2 : (t135 == t143) = false := by simpa using c33))
                    (try (have c33b3 : ¬ (t135 = t143) := by simpa using c33))
                    clear c33
                    obtain rfl := Option.some.inj H
                    go_wp2_with (first | ((with_reducible refine gate_callee (f := 19) rfl ?_); refine goesL_ (some 57) rfl rfl Try.func19 (by kernel_rfl) rfl #[.slice A0 l0.length c0, .string a1] rfl (by (try simp only [List.map_toArray, List.map_cons, List.map_nil]); first | done | rfl | (simp only [List.length_drop, List.length_take]; rfl)) ?_; (with_reducible refine (semigroupref13_Reduce.calls kj23 _ _ l0 a1 t141 t142 _ ?side1 ?side2 A29.out).mono ?_); (case side1 => repeat (first | exact (Kd.C_below HR0.out HB.out) | (with_reducible refine Kd.C_alloc ?_ _) | (with_reducible refine Kd.C_drewN ?_ _) | (with_reducible refine Kd.C_drew ?_))); (case side2 => exact HC0.out); rintro e w38 ⟨rfl, hb⟩; refine ⟨_, rfl, ?_⟩; have n0_ := Aside0.mk (below_step (by repeat (first | (with_reducible first | exact HB.out | apply below_alloc | apply pw_below_drewN | apply below_drew1) | exact HB.out)) hb); clear HB; have HB := n0_; clear n0_; (try clear hb); (try clear hb2); (try clear hk); (try clear hi)) | (go_at_call 20; (with_reducible refine (semigroupref13_Reduced.calls _ _ l0 a1 t143 _ ?side1 ?side2 A32.out).mono ?_); (case side1 => repeat (first | exact (Kd.C_below HR0.out HB.out) | (with_reducible refine Kd.C_alloc ?_ _) | (with_reducible refine Kd.C_drewN ?_ _) | (with_reducible refine Kd.C_drew ?_))); (case side2 => exact HC0.out); rintro e w39 ⟨rfl, hb⟩; have n0_ := Aside0.mk (below_step (by repeat (first | (with_reducible first | exact HB.out | apply below_alloc | apply pw_below_drewN | apply below_drew1) | exact HB.out)) hb); clear HB; have HB := n0_; clear n0_; (try clear hb); (try clear hb2); (try clear hk); (try clear hi)))
                    go_ret
                    exact ⟨by first | rfl | (simp [errW_none, errW_some] <;> rfl) | (simp [*, errW_none, errW_some] <;> rfl), by repeat (first | (with_reducible first | exact HB.out | apply below_alloc | apply pw_below_drewN | apply below_drew1) | exact HB.out)⟩
                · rw [if_neg c31] at H
                  have c31b0 : (t133.toList == t141.toList) = false := beq_eq_false_iff_ne.mpr c31
                  have c31b1 : (t133.toList != t141.toList) = true := bne_iff_ne.mpr c31
                  obtain rfl := Option.some.inj H
                  go_wp2_with (first | ((with_reducible refine gate_callee (f := 19) rfl ?_); refine goesL_ (some 57) rfl rfl Try.func19 (by kernel_rfl) rfl #[.slice A0 l0.length c0, .string a1] rfl (by (try simp only [List.map_toArray, List.map_cons, List.map_nil]); first | done | rfl | (simp only [List.length_drop, List.length_take]; rfl)) ?_; (with_reducible refine (semigroupref13_Reduce.calls kj23 _ _ l0 a1 t141 t142 _ ?side1 ?side2 A29.out).mono ?_); (case side1 => repeat (first | exact (Kd.C_below HR0.out HB.out) | (with_reducible refine Kd.C_alloc ?_ _) | (with_reducible refine Kd.C_drewN ?_ _) | (with_reducible refine Kd.C_drew ?_))); (case side2 => exact HC0.out); rintro e w40 ⟨rfl, hb⟩; refine ⟨_, rfl, ?_⟩; have n0_ := Aside0.mk (below_step (by repeat (first | (with_reducible first | exact HB.out | apply below_alloc | apply pw_below_drewN | apply below_drew1) | exact HB.out)) hb); clear HB; have HB := n0_; clear n0_; (try clear hb); (try clear hb2); (try clear hk); (try clear hi)))
                  go_ret
                  exact ⟨by first | rfl | (simp [errW_none, errW_some] <;> rfl) | (simp [*, errW_none, errW_some] <;> rfl), by repeat (first | (with_reducible first | exact HB.out | apply below_alloc | apply pw_below_drewN | apply below_drew1) | exact HB.out)⟩
              · rw [if_neg c30] at H
                have c30b0 : (t134 == t142) = false := beq_eq_false_iff_ne.mpr c30
                have c30b1 : (t134 != t142) = true := bne_iff_ne.mpr c30
                obtain rfl := Option.some.inj H
                go_wp2_with (first | ((with_reducible refine gate_callee (f := 19) rfl ?_); refine goesL_ (some 57) rfl rfl Try.func19 (by kernel_rfl) rfl #[.slice A0 l0.length c0, .string a1] rfl (by (try simp only [List.map_toArray, List.map_cons, List.map_nil]); first | done | rfl | (simp only [List.length_drop, List.length_take]; rfl)) ?_; (with_reducible refine (semigroupref13_Reduce.calls kj23 _ _ l0 a1 t141 t142 _ ?side1 ?side2 A29.out).mono ?_); (case side1 => repeat (first | exact (Kd.C_below HR0.out HB.out) | (with_reducible refine Kd.C_alloc ?_ _) | (with_reducible refine Kd.C_drewN ?_ _) | (with_reducible refine Kd.C_drew ?_))); (case side2 => exact HC0.out); rintro e w41 ⟨rfl, hb⟩; refine ⟨_, rfl, ?_⟩; have n0_ := Aside0.mk (below_step (by repeat (first | (with_reducible first | exact HB.out | apply below_alloc | apply pw_below_drewN | apply below_drew1) | exact HB.out)) hb); clear HB; have HB := n0_; clear n0_; (try clear hb); (try clear hb2); (try clear hk); (try clear hi)))
                go_ret
                exact ⟨by first | rfl | (simp [errW_none, errW_some] <;> rfl) | (simp [*, errW_none, errW_some] <;> rfl), by repeat (first | (with_reducible first | exact HB.out | apply below_alloc | apply pw_below_drewN | apply below_drew1) | exact HB.out)⟩

end Go.Proofs.Ytaiiohnjlockkaa.PRewriteReduces
