-- by hp.py of this repo, over the kit's print: Lean checks it
import Derived.Test.YtjpghckijecdcaaPPartitionAllx0
namespace Go.Proofs.Ytjpghckijecdcaa.PPartitionAll
open Go.RowKit Go.Proofs.YtjpghckijecdcaaH Go.Proofs.YtjpghckijecdcaaW.PrintWords Go.Proofs.YtjpghckijecdcaaW.PrintLast Go.Proofs.YtjpghckijecdcaaW.PrintMore
attribute [local go_sem] max2_int min2_int max_two min_two max_three min_three max_four min_four   -- for this text's walks alone
set_option linter.unusedVariables false
set_option linter.unusedSimpArgs false

/-! ### partition_Canonical: function 15, by hand -/
open Go.Proofs.YtjpghckijecdcaaH
def partition_Canonical.f (l0 : List Int) : Option (List Int) := if (l0.length : Int) > 4096 then some [] else some (canonL l0).2
theorem lits15 (w : World) : (zeroValue 3).run Try.prog w = .ok (.int .i64 0) w := by kernel_rfl
set_option maxHeartbeats 8000000 in
set_option maxRecDepth 100000 in
theorem partition_Canonical.calls (A0 : Option Addr) (c0 : Nat) (l0 : List Int) (r : List Int) (w : World) (hr0 : Kd.C (Kd.int .i64) w A0 l0.length l0) (hc0 : l0.length ≤ c0) (h : partition_Canonical.f l0 = some r) :
    Calls Try.prog 15 #[.slice A0 l0.length c0] w fun e w' => ∃ v0_ : Value, e = .returned (v0_) ∧ Kd.R (Kd.int .i64) 3 w' w.heap.size (fun _ => True) v0_ r ∧ Below w.heap.size w w' := by
  have HB := Aside0.mk (Below.refl w.heap.size w)
  have HR0 := Aside0.mk hr0
  have HC0 := Aside0.mk hc0
  clear hr0 hc0
  unfold partition_Canonical.f at h
  by_cases c2 : (l0.length : Int) > 4096
  · rw [if_pos c2] at h
    have c2b0 : decide (4096 < (l0.length : Int)) = true := decide_eq_true c2
    have c2b1 : decide (4096 < l0.length) = true := decide_eq_true (by omega)
    clear c2
    obtain rfl := Option.some.inj h
    go_enter Try.func15, Try.ntmps15
    go_wp2
    go_ret
    exact ⟨_, rfl, Kd.R_nil _ _ _ _ _, Below.refl _ _⟩
  · rw [if_neg c2] at h
    have c2b0 : decide (4096 < (l0.length : Int)) = false := decide_eq_false c2
    have c2b1 : decide (4096 < l0.length) = false := decide_eq_false (by omega)
    have hl : l0.length ≤ 4096 := by omega
    clear c2
    have HF := Aside0.mk h
    clear h
    have hmm := @run_makeMap Try.prog
    go_enter Try.func15, Try.ntmps15
    go_wp2_with (first | ((with_reducible refine gate_dst (N := 15) rfl ?_); refine Kd.R_make (Kd.int .i64) _ 3 rfl (N := 15) rfl 22 _ _ rfl l0.length rfl rfl Try.underlying22 (.int .i64 0) 8 info3 rfl (by decide) (by omega) 0 (ok := fun _ => True) (okp := fun _ => True) rfl (fun _ hk => hk) trivial (by omega) (by simp; omega) (below_alloc (Below.refl _ _) _) (by simp) ?_; intro v133 w4 ho5 hb hg_ hnew_))
    have HM := Aside0.mk ((OwnM.made (ek := Value.int .i64) (ev := Value.int .i64) w (Nat.le_refl _)).grown hg_ (by simp))
    obtain ⟨Ao6, co6, eo6⟩ := Kd.R_slice ho5
    simp only [Int.toNat_natCast, List.length_replicate] at eo6 ho5
    subst eo6
    have HO := Aside0.mk ho5
    have HB := Aside0.mk hb
    clear ho5 hb hg_ hnew_
    go_loopg [18] (l0.length + 1) (fun kq v18 w' => ∃ i : Nat, i ≤ l0.length ∧ kq + i = l0.length + 1 ∧ v18 = .int .i64 (i : Int) ∧ Aside0 (OwnM (Value.int .i64) (Value.int .i64) w' w.heap.size w.heap.size (canonL (l0.take i)).1) ∧ Aside0 (Kd.R (Kd.int .i64) 3 w' w.heap.size (fun _ => True) (.slice Ao6 l0.length co6) (canonOut l0 i)) ∧ Aside0 (Below w.heap.size w w'))
    case atStart => exact ⟨0, Nat.zero_le _, by omega, rfl, ⟨HM.out⟩, ⟨by have := HO.out; simpa [canonOut, canonL] using this⟩, ⟨HB.out⟩⟩
    case round =>
      obtain ⟨i, hi, hkq, rfl, HM, HO, HB⟩ := hrel
      by_cases hlt : i < l0.length
      · have p1 : (0:Int) ≤ (i : Int) := by omega
        have q1 : (i : Int) < (l0.length : Int) := by omega
        obtain ⟨ad1, e1, hx1⟩ := Kd.at_int HR0.out (i : Int) p1 q1
        cases e1
        replace hx1 := (HB.out.cell (World.block_lt_of_cell? w _ hx1)).trans hx1
        simp only [Int.toNat_natCast] at hx1
        have q2 : (i : Int) < ((canonOut l0 i).length : Int) := by rw [canonOut_len hi]; exact q1
        have hts := take_snoc_rd l0 i hlt
        have hcs := canonL_snoc (l0.take i) (rd l0 i)
        rw [← hts] at hcs
        obtain ⟨go3, co3, eo3, gb3, gl3, cl3, HG3⟩ := Kd.R_form HO.out (by omega)
        injection eo3 with ea_ en_ ec_
        subst ea_; subst ec_
        obtain ⟨hx3, hf3⟩ := Kd.R_celln 0 HO.out (i : Int) p1 (by exact q1)
        simp only [Int.toNat_natCast] at hx3 hf3
        have GB3 := Aside0.mk gb3
        have HG3 := Aside0.mk (show ∃ cs e fr, wr.heap[go3]? = some (.cells cs e fr) from ⟨_, _, _, HG3⟩)
        have HCS := Aside0.mk hcs
        clear gb3 gl3 hts hcs en_
        have hw : wrap64 ((i : Int) + 1) = ((i + 1 : Nat) : Int) := by unfold wrap64; omega
        cases hmg : mget (canonL (l0.take i)).1 (rd l0 i) with
        | some k =>
          have hstep : canonL (l0.take (i + 1)) = ((canonL (l0.take i)).1, (canonL (l0.take i)).2 ++ [k]) := by rw [HCS.out, canonStep, hmg]
          have hset := canonOut_set l0 i hlt k (by rw [hstep])
          have HS := Aside0.mk hstep
          have HSET := Aside0.mk hset
          clear hstep hset
          have HP := Aside0.mk (Kd.R_putg HO.out (i : Int) k)
          simp only [Int.toNat_natCast] at HP
          go_wp2_with (first | (at_lookup; refine wp_mlook rfl _ _ 44 true rfl 3 3 (keyOk_int Try.underlying3) Try.underlying44 _ _ HM.out (canonL_once _) rfl (rd l0 i) rfl 0 (lits15 _) ?_))
          go_roundg (gk - 1)
          case measure => omega
          case rel => exact ⟨i + 1, by omega, by omega, by rfl, ⟨by rw [HS.out]; exact HM.out.grown HP.out.2 (by rintro _ ⟨⟩; exact HG3.out)⟩, ⟨by rw [HSET.out]; exact HP.out.1⟩, ⟨below_set HB.out GB3.out⟩⟩
        | none =>
          have hstep : canonL (l0.take (i + 1)) = (mput (canonL (l0.take i)).1 (rd l0 i) ((canonL (l0.take i)).1.length : Int), (canonL (l0.take i)).2 ++ [((canonL (l0.take i)).1.length : Int)]) := by rw [HCS.out, canonStep, hmg]
          have hset := canonOut_set l0 i hlt _ (by rw [hstep])
          have HS := Aside0.mk hstep
          have HSET := Aside0.mk hset
          clear hstep hset hx3 hf3
          have AF5 := Aside0.mk (show ∀ w5, OwnM (Value.int .i64) (Value.int .i64) w5 w.heap.size w.heap.size (mput (canonL (l0.take i)).1 (rd l0 i) ((canonL (l0.take i)).1.length : Int)) → wr.grownBy w5 (some w.heap.size) →
              w5.cell? ⟨go3, i, none⟩ = some (.int .i64 (rdOf 0 (canonOut l0 i) (i : Int))) ∧ w5.frozen? ⟨go3, i, none⟩ = false ∧
              Aside0 (Kd.R (Kd.int .i64) 3 (w5.setCell ⟨go3, i, none⟩ (.int .i64 ((canonL (l0.take i)).1.length : Int))) w.heap.size (fun _ => True) (.slice (some ⟨go3, 0, none⟩) l0.length co6) ((canonOut l0 i).set i ((canonL (l0.take i)).1.length : Int)) ∧ w5.grownBy (w5.setCell ⟨go3, i, none⟩ (.int .i64 ((canonL (l0.take i)).1.length : Int))) (some go3)) ∧
              Aside0 (Below w.heap.size w w5) ∧ Aside0 (∃ cs e fr, w5.heap[go3]? = some (.cells cs e fr)) from fun w5 hm5 hg5 => by
            have HO5 := R_map HO.out HM.out hg5
            obtain ⟨hx3, hf3⟩ := Kd.R_celln 0 HO5 (i : Int) p1 (by exact q1)
            have HP := Kd.R_putg HO5 (i : Int) ((canonL (l0.take i)).1.length : Int)
            simp only [Int.toNat_natCast] at hx3 hf3 HP
            refine ⟨hx3, hf3, ⟨HP⟩, ⟨below_map HB.out HM.out HB.out.size hg5⟩, ⟨?_⟩⟩
            obtain ⟨_, _, e_, _, _, cs, hcs⟩ := Kd.R_form HO5 (by omega)
            injection e_ with e_ _ _
            injection e_ with e_
            injection e_ with e_ _ _
            subst e_
            exact ⟨_, _, _, hcs⟩)
          go_wp2_with (first | (at_lookup; refine wp_mlook rfl _ _ 44 true rfl 3 3 (keyOk_int Try.underlying3) Try.underlying44 _ _ HM.out (canonL_once _) rfl (rd l0 i) rfl 0 (lits15 _) ?_) | (at_len; refine wp_mlen rfl _ 44 rfl 3 3 Try.underlying44 _ _ HM.out rfl ?_) | (at_mapUpdate; refine wp_mput rfl _ _ _ 44 rfl 3 3 (keyOk_int Try.underlying3) Try.underlying44 _ _ HM.out (canonL_once _) rfl (rd l0 i) rfl ((canonL (l0.take i)).1.length : Int) rfl ?_; intro w5 hm5 hg5; obtain ⟨hx3, hf3, HP, HB5, HG5⟩ := AF5.out w5 hm5 hg5; have HM5 := Aside0.mk hm5; clear hm5 hg5))
          go_roundg (gk - 1)
          case measure => omega
          case rel => exact ⟨i + 1, by omega, by omega, by rfl, ⟨by rw [HS.out]; exact HM5.out.grown HP.out.2 (by rintro _ ⟨⟩; exact HG5.out)⟩, ⟨by rw [HSET.out]; exact HP.out.1⟩, ⟨below_set HB5.out GB3.out⟩⟩
      · obtain rfl : i = l0.length := by omega
        have q1 : ¬ ((l0.length : Int) < (l0.length : Int)) := by omega
        go_wp2
        go_ret
        exact ⟨_, rfl, by have h := HO.out; have e := Option.some.inj HF.out; simpa [canonOut, e] using h, HB.out⟩

/-! ### semigroupref03_Same: function 16 -/
def semigroupref03_Same.l0 : Nat → List Int → List Int → Int → Int → Option (Bool)
  | 0, _, _, _, _ => none
  | k + 1, x0, x1, x12, x13 => if x13 < x12 then (if 0 ≤ x13 then (if x13 < (x0.length : Int) then (if x13 < (x1.length : Int) then (if (rd x0 x13) = (rd x1 x13) then (semigroupref03_Same.l0 k x0 x1 x12 (wrap64 (x13 + 1))) else (some false)) else (none)) else (none)) else (none)) else (some true)
def semigroupref03_Same.f (k : Nat) (l0 : List Int) (l1 : List Int) : Option (Bool) := if (l0.length : Int) = (l1.length : Int) then (semigroupref03_Same.l0 k l0 l1 (l0.length : Int) 0) else (some false)
theorem semigroupref03_Same.mono_l : ∀ k, (∀ y0 y1 y2 y3, LeO (semigroupref03_Same.l0 k y0 y1 y2 y3) (semigroupref03_Same.l0 (k + 1) y0 y1 y2 y3))
  | 0 => fun _ _ _ _ r h => by simp [semigroupref03_Same.l0] at h
  | k + 1 => by
    have ih0 := semigroupref03_Same.mono_l k
    · intro y0 y1 y2 y3
      unfold semigroupref03_Same.l0
      repeat' first
      | (with_reducible exact ih0 _ _ _ _)
      | (with_reducible exact LeO.refl _)
      | (with_reducible exact LeO.none _)
      | (with_reducible refine LeO.ite ?_ ?_)
      | (with_reducible refine LeO.bind ?_ (fun _ => ?_))
      | exact ih0 _ _ _ _
      | exact LeO.none _
      | refine LeO.ite ?_ ?_
      | refine LeO.bind ?_ (fun _ => ?_)
theorem semigroupref03_Same.mono : ∀ a0 a1 k, LeO (semigroupref03_Same.f k a0 a1) (semigroupref03_Same.f (k + 1) a0 a1) := by
  intro a0 a1 k
  have ih0 := semigroupref03_Same.mono_l k
  unfold semigroupref03_Same.f
  repeat' first
      | (with_reducible exact ih0 _ _ _ _)
      | (with_reducible exact LeO.refl _)
      | (with_reducible exact LeO.none _)
      | (with_reducible refine LeO.ite ?_ ?_)
      | (with_reducible refine LeO.bind ?_ (fun _ => ?_))
      | exact ih0 _ _ _ _
      | exact LeO.none _
      | refine LeO.ite ?_ ?_
      | refine LeO.bind ?_ (fun _ => ?_)
set_option maxHeartbeats 8000000 in
set_option maxRecDepth 100000 in
theorem semigroupref03_Same.calls (k : Nat) (A0 : Option Addr) (c0 : Nat) (l0 : List Int) (A1 : Option Addr) (c1 : Nat) (l1 : List Int) (r : Bool) (w : World) (hr0 : Kd.C (Kd.int .i64) w A0 l0.length l0) (hc0 : l0.length ≤ c0) (hr1 : Kd.C (Kd.int .i64) w A1 l1.length l1) (hc1 : l1.length ≤ c1) (h : semigroupref03_Same.f k l0 l1 = some r) :
    Calls Try.prog 16 #[.slice A0 l0.length c0, .slice A1 l1.length c1] w fun e w' => e = .returned (.bool r) ∧ Drawn0 w w' := by
  have HR0 := Aside0.mk hr0
  have HC0 := Aside0.mk hc0
  clear hr0 hc0
  have HR1 := Aside0.mk hr1
  have HC1 := Aside0.mk hc1
  clear hr1 hc1
  have H : (if (l0.length : Int) = (l1.length : Int) then (semigroupref03_Same.l0 k l0 l1 (l0.length : Int) 0) else (some false)) = some r := h
  clear h
  by_cases c3 : (l0.length : Int) = (l1.length : Int)
  · rw [if_pos c3] at H
    have c3b0 : ((l0.length : Int) == (l1.length : Int)) = true := beq_iff_eq.mpr c3
    have c3b1 : ((l0.length : Int) != (l1.length : Int)) = false := bne_eq_false_iff_eq.mpr c3
    have c3b2 : (l0.length == l1.length) = true := by first | simpa using c3 | (simp at c3 ⊢; omega)
    clear c3
    have H' := Aside0.mk H
    clear H
    go_enter Try.func16, Try.ntmps16
    go_wp2
    repeat (go_quiet (fail); try go_wp2)
    go_loopg [13] k (fun kq v13 w' => ∃ (x13_1 : Int), v13 = .int .i64 x13_1 ∧ Aside0 (semigroupref03_Same.l0 kq l0 l1 (l0.length : Int) x13_1 = some r) ∧ Aside0 (kq ≤ k) ∧ Drawn0 w w')
    case atStart => exact ⟨(0), (by first | rfl | (simp; done) | (simp [*]; done)), H', ⟨Nat.le_refl _⟩, by repeat (first | exact Drawn0.refl _ | apply Drawn0.step)⟩
    case round =>
      clear H'
      try clear c1
      try clear p2
      try clear c3
      try clear c3b0
      try clear c3b1
      try clear c3b2
      obtain ⟨x13_1, rfl, HA, HK1, ⟨m1, rfl⟩⟩ := hrel
      cases gk with
      | zero => exact absurd HA.out (by simp [semigroupref03_Same.l0])
      | succ k1 =>
        have H := HA.out
        clear HA
        simp only [semigroupref03_Same.l0] at H
        by_cases c4 : x13_1 < (l0.length : Int)
        · rw [if_pos c4] at H
          have c4b0 : decide (x13_1 < (l0.length : Int)) = true := decide_eq_true c4
          clear c4
          by_cases c5 : 0 ≤ x13_1
          · rw [if_pos c5] at H
            have c5b0 : decide (0 ≤ x13_1) = true := decide_eq_true c5
            clear c5
            by_cases c6 : x13_1 < (l0.length : Int)
            · rw [if_pos c6] at H
              have c6b0 : decide (x13_1 < (l0.length : Int)) = true := decide_eq_true c6
              clear c6
              by_cases c7 : x13_1 < (l1.length : Int)
              · rw [if_pos c7] at H
                have c7b0 : decide (x13_1 < (l1.length : Int)) = true := decide_eq_true c7
                clear c7
                by_cases c8 : (rd l0 x13_1) = (rd l1 x13_1)
                · rw [if_pos c8] at H
                  have c8b0 : ((rd l0 x13_1) == (rd l1 x13_1)) = true := beq_iff_eq.mpr c8
                  have c8b1 : ((rd l0 x13_1) != (rd l1 x13_1)) = false := bne_eq_false_iff_eq.mpr c8
                  clear c8
                  have H' := Aside0.mk H
                  clear H
                  have p101 : 0 ≤ (x13_1 : Int) := of_decide_eq_true (by first | (with_reducible assumption) | assumption)
                  have q101 : x13_1 < (l0.length : Int) := of_decide_eq_true (by first | (with_reducible assumption) | assumption)
                  obtain ⟨ad101, e101, hx101_0⟩ := Kd.at_int HR0.out x13_1 p101 q101
                  cases e101
                  replace p101 := eq_true p101
                  replace q101 := eq_true q101
                  have p102 : 0 ≤ (x13_1 : Int) := of_decide_eq_true (by first | (with_reducible assumption) | assumption)
                  have q102 : x13_1 < (l1.length : Int) := of_decide_eq_true (by first | (with_reducible assumption) | assumption)
                  obtain ⟨ad102, e102, hx102_0⟩ := Kd.at_int HR1.out x13_1 p102 q102
                  cases e102
                  replace p102 := eq_true p102
                  replace q102 := eq_true q102
                  go_wp2
                  repeat (go_quiet (fail); try go_wp2)
                  go_roundg k1
                  case measure => have := HK1.out; omega
                  case rel => exact ⟨(wrap64 (x13_1 + 1)), (by first | rfl | (simp; done) | (simp [*]; done)), H', ⟨by have := HK1.out; omega⟩, by repeat (first | exact Drawn0.refl _ | apply Drawn0.step)⟩
                · rw [if_neg c8] at H
                  have c8b0 : ((rd l0 x13_1) == (rd l1 x13_1)) = false := beq_eq_false_iff_ne.mpr c8
                  have c8b1 : ((rd l0 x13_1) != (rd l1 x13_1)) = true := bne_iff_ne.mpr c8
                  obtain rfl := Option.some.inj H
                  have p101 : 0 ≤ (x13_1 : Int) := of_decide_eq_true (by first | (with_reducible assumption) | assumption)
                  have q101 : x13_1 < (l0.length : Int) := of_decide_eq_true (by first | (with_reducible assumption) | assumption)
                  obtain ⟨ad101, e101, hx101_0⟩ := Kd.at_int HR0.out x13_1 p101 q101
                  cases e101
                  replace p101 := eq_true p101
                  replace q101 := eq_true q101
                  have p102 : 0 ≤ (x13_1 : Int) := of_decide_eq_true (by first | (with_reducible assumption) | assumption)
                  have q102 : x13_1 < (l1.length : Int) := of_decide_eq_true (by first | (with_reducible assumption) | assumption)
                  obtain ⟨ad102, e102, hx102_0⟩ := Kd.at_int HR1.out x13_1 p102 q102
                  cases e102
                  replace p102 := eq_true p102
                  replace q102 := eq_true q102
                  go_wp2
                  repeat (go_quiet (fail); try go_wp2)
                  go_ret
                  exact ⟨by first | rfl | (simp; done) | (simp [*]; done), by repeat (first | exact Drawn0.refl _ | apply Drawn0.step)⟩
              · rw [if_neg c7] at H
                exact absurd H (by simp)
            · rw [if_neg c6] at H
              exact absurd H (by simp)
          · rw [if_neg c5] at H
            exact absurd H (by simp)
        · rw [if_neg c4] at H
          have c4b0 : decide (x13_1 < (l0.length : Int)) = false := decide_eq_false c4
          clear c4
          obtain rfl := Option.some.inj H
          go_wp2
          repeat (go_quiet (fail); try go_wp2)
          go_ret
          exact ⟨by first | rfl | (simp; done) | (simp [*]; done), by repeat (first | exact Drawn0.refl _ | apply Drawn0.step)⟩
  · rw [if_neg c3] at H
    have c3b0 : ((l0.length : Int) == (l1.length : Int)) = false := beq_eq_false_iff_ne.mpr c3
    have c3b1 : ((l0.length : Int) != (l1.length : Int)) = true := bne_iff_ne.mpr c3
    have c3b2 : (l0.length == l1.length) = false := by first | simpa using c3 | (simp at c3 ⊢; omega)
    obtain rfl := Option.some.inj H
    go_enter Try.func16, Try.ntmps16
    go_wp2
    repeat (go_quiet (fail); try go_wp2)
    go_ret
    exact ⟨by first | rfl | (simp; done) | (simp [*]; done), by repeat (first | exact Drawn0.refl _ | apply Drawn0.step)⟩

/-! ### semigrouplaw03_awake: function 20 -/
def semigrouplaw03_awake.f (k : Nat)  : Option (Bool) := (partition_Canonical.f (([7, 5, 7] : List Int))).bind fun t106 => ((semigroupref03_Same.f k t106 (([0, 1, 0] : List Int))).bind fun t112 => (some t112))
theorem semigrouplaw03_awake.mono : ∀ k, LeO (semigrouplaw03_awake.f k ) (semigrouplaw03_awake.f (k + 1) ) := by
  intro  k
  unfold semigrouplaw03_awake.f
  repeat' first
      | (with_reducible exact semigroupref03_Same.mono _ _ _)
      | (with_reducible exact LeO.refl _)
      | (with_reducible exact LeO.none _)
      | (with_reducible refine LeO.ite ?_ ?_)
      | (with_reducible refine LeO.bind ?_ (fun _ => ?_))
      | exact semigroupref03_Same.mono _ _ _
      | exact LeO.none _
      | refine LeO.ite ?_ ?_
      | refine LeO.bind ?_ (fun _ => ?_)
set_option maxHeartbeats 8000000 in
set_option maxRecDepth 100000 in
theorem semigrouplaw03_awake.calls (k : Nat)  (r : Bool) (w : World) (h : semigrouplaw03_awake.f k  = some r) :
    Calls Try.prog 20 #[] w fun e w' => e = .returned (.bool r) ∧ Below w.heap.size w w' := by
  have HB := Aside0.mk (Below.refl w.heap.size w)
  have H : ((partition_Canonical.f (([7, 5, 7] : List Int))).bind fun t106 => ((semigroupref03_Same.f k t106 (([0, 1, 0] : List Int))).bind fun t112 => (some t112))) = some r := h
  clear h
  obtain ⟨y103, hy103⟩ : ∃ y_ : List Int, y_ = (([7, 5, 7] : List Int)) := ⟨_, rfl⟩
  replace H : ((partition_Canonical.f y103).bind fun t106 => ((semigroupref03_Same.f k t106 (([0, 1, 0] : List Int))).bind fun t112 => (some t112))) = some r := by first | (rw [hy103]; with_reducible exact H) | (have H2_ := (Option.bind_some _ _).symm.trans H; rw [hy103]; with_reducible exact H2_) | (have H2_ := (Option.bind_some _ _).symm.trans H; with_reducible exact H2_) | with_reducible exact H | (rw [hy103]; exact H) | exact H
  have Ny103 := Aside0.mk hy103
  clear hy103
  replace H := Option.bind_eq_some_iff.mp H
  obtain ⟨t106, A10, H⟩ := H
  replace H : ((semigroupref03_Same.f k t106 (([0, 1, 0] : List Int))).bind fun t112 => (some t112)) = some r := H
  have A1 := Aside0.mk A10
  clear A10
  obtain ⟨y109, hy109⟩ : ∃ y_ : List Int, y_ = (([0, 1, 0] : List Int)) := ⟨_, rfl⟩
  replace H : ((semigroupref03_Same.f k t106 y109).bind fun t112 => (some t112)) = some r := by first | (rw [hy109]; with_reducible exact H) | (have H2_ := (Option.bind_some _ _).symm.trans H; rw [hy109]; with_reducible exact H2_) | (have H2_ := (Option.bind_some _ _).symm.trans H; with_reducible exact H2_) | with_reducible exact H | (rw [hy109]; exact H) | exact H
  have Ny109 := Aside0.mk hy109
  clear hy109
  replace H := Option.bind_eq_some_iff.mp H
  obtain ⟨t112, A20, H⟩ := H
  replace H : (some t112) = some r := H
  have A2 := Aside0.mk A20
  clear A20
  obtain rfl := Option.some.inj H
  go_enter Try.func20, Try.ntmps20
  go_wp2_with (first | ((with_reducible refine gate_dst (N := 1) rfl ?_); refine Kd.R_lit (Kd.int .i64) _ 3 ?hg (N := 1) ?hd (xs := ([7, 5, 7] : List Int)) (inner := [.int .i64 7, .int .i64 5, .int .i64 7]) (ok := fun _ => True) (okp := fun _ => True) ?hr ?hp (fun _ hk => hk) trivial (Below.refl _ _) (Nat.le_refl _) (by simp) ?_; (case hd => rfl); (case hg => rfl); (case hr => first | (go_simp; done) | (go_simp; rfl)); (case hp => exact (Reps.one (show Kd.M (Kd.int .i64) _ _ _ 7 [.int .i64 7] from rfl) (Reps.one (show Kd.M (Kd.int .i64) _ _ _ 5 [.int .i64 5] from rfl) (Reps.one (show Kd.M (Kd.int .i64) _ _ _ 7 [.int .i64 7] from rfl) (Reps.none _ _))))); intro v104 w3 ho4 hb hg_ hnew_; clear hg_ hnew_; (first | rw [← Ny103.out] at ho4 | (simp only [Int.reduceToNat] at ho4; rw [← Ny103.out] at ho4)); have n0_ := Aside0.mk (Kd.R_lower ho4 (below_size (by repeat (first | (with_reducible first | exact HB.out | apply below_alloc | apply pw_below_drewN | apply below_drew1) | exact HB.out)))); have n1_ := Aside0.mk (below_step (by repeat (first | (with_reducible first | exact HB.out | apply below_alloc | apply pw_below_drewN | apply below_drew1) | exact HB.out)) hb); clear HB; have HO105 := n0_; have HB := n1_; clear n0_ n1_; clear hb ho4; obtain ⟨Ao5, co5, eo5⟩ := Kd.R_slice HO105.out; subst eo5) | ((with_reducible refine gate_callee (f := 15) rfl ?_); refine goesL_ (some 2) rfl rfl Try.func15 (by kernel_rfl) rfl #[.slice Ao5 y103.length co5] rfl (by (try simp only [List.map_toArray, List.map_cons, List.map_nil]); first | done | rfl | (simp only [List.length_drop, List.length_take]; rfl)) ?_; (with_reducible refine (partition_Canonical.calls _ _ y103 t106 _ ?side1 ?side2 A1.out).mono ?_); (case side1 => repeat (first | exact (Kd.R_reads' HO105.out).2.2 | (with_reducible refine Kd.C_alloc ?_ _) | (with_reducible refine Kd.C_drewN ?_ _) | (with_reducible refine Kd.C_drew ?_))); (case side2 => exact (Kd.R_reads' HO105.out).2.1); rintro e w6 ⟨v107, rfl, ho0, hb⟩; refine ⟨_, rfl, ?_⟩; have n0_ := Aside0.mk (Kd.R_elder' (by (with_reducible repeat (first | apply Kd.R_alloc | apply Kd.R_drewN | apply Kd.R_drew)); exact HO105.out) (Kd.R_base ho0) hb); have n1_ := Aside0.mk (Kd.R_lower (Kd.R_new' ho0 (Kd.R_lt (by (with_reducible repeat (first | apply Kd.R_alloc | apply Kd.R_drewN | apply Kd.R_drew)); exact HO105.out))) (below_size (by repeat (first | (with_reducible first | exact HB.out | apply below_alloc | apply pw_below_drewN | apply below_drew1) | exact HB.out)))); have n2_ := Aside0.mk (below_step (by repeat (first | (with_reducible first | exact HB.out | apply below_alloc | apply pw_below_drewN | apply below_drew1) | exact HB.out)) hb); clear HO105; clear HB; have HO105 := n0_; have HO108 := n1_; have HB := n2_; clear n0_ n1_ n2_; (try clear hb); (try clear hb2); (try clear hk); (try clear hi); (try clear ho0)) | ((with_reducible refine gate_dst (N := 3) rfl ?_); refine Kd.R_lit (Kd.int .i64) _ 3 ?hg (N := 3) ?hd (xs := ([0, 1, 0] : List Int)) (inner := [.int .i64 0, .int .i64 1, .int .i64 0]) (ok := fun _ => True) (okp := fun _ => True) ?hr ?hp (fun _ hk => hk) trivial (Below.refl _ _) (Nat.le_refl _) (by simp) ?_; (case hd => rfl); (case hg => rfl); (case hr => first | (go_simp; done) | (go_simp; rfl)); (case hp => exact (Reps.one (show Kd.M (Kd.int .i64) _ _ _ 0 [.int .i64 0] from rfl) (Reps.one (show Kd.M (Kd.int .i64) _ _ _ 1 [.int .i64 1] from rfl) (Reps.one (show Kd.M (Kd.int .i64) _ _ _ 0 [.int .i64 0] from rfl) (Reps.none _ _))))); intro v110 w7 ho8 hb hg_ hnew_; clear hg_ hnew_; (first | rw [← Ny109.out] at ho8 | (simp only [Int.reduceToNat] at ho8; rw [← Ny109.out] at ho8)); have n0_ := Aside0.mk (Kd.R_elder' (by (with_reducible repeat (first | apply Kd.R_alloc | apply Kd.R_drewN | apply Kd.R_drew)); exact HO105.out) (Kd.R_base ho8) hb); have n1_ := Aside0.mk (Kd.R_elder' (by (with_reducible repeat (first | apply Kd.R_alloc | apply Kd.R_drewN | apply Kd.R_drew)); exact HO108.out) (Kd.R_base ho8) hb); have n2_ := Aside0.mk (Kd.R_lower (Kd.R_new' (Kd.R_new' ho8 (Kd.R_lt (by (with_reducible repeat (first | apply Kd.R_alloc | apply Kd.R_drewN | apply Kd.R_drew)); exact HO105.out))) (Kd.R_lt (by (with_reducible repeat (first | apply Kd.R_alloc | apply Kd.R_drewN | apply Kd.R_drew)); exact HO108.out))) (below_size (by repeat (first | (with_reducible first | exact HB.out | apply below_alloc | apply pw_below_drewN | apply below_drew1) | exact HB.out)))); have n3_ := Aside0.mk (below_step (by repeat (first | (with_reducible first | exact HB.out | apply below_alloc | apply pw_below_drewN | apply below_drew1) | exact HB.out)) hb); clear HO105; clear HO108; clear HB; have HO105 := n0_; have HO108 := n1_; have HO111 := n2_; have HB := n3_; clear n0_ n1_ n2_ n3_; clear hb ho8; obtain ⟨Ao9, co9, eo9⟩ := Kd.R_slice HO108.out; subst eo9; obtain ⟨Ao10, co10, eo10⟩ := Kd.R_slice HO111.out; subst eo10) | ((with_reducible refine gate_callee (f := 16) rfl ?_); refine goesL_ (some 4) rfl rfl Try.func16 (by kernel_rfl) rfl #[.slice Ao9 t106.length co9, .slice Ao10 y109.length co10] rfl (by (try simp only [List.map_toArray, List.map_cons, List.map_nil]); first | done | rfl | (simp only [List.length_drop, List.length_take]; rfl)) ?_; (with_reducible refine (semigroupref03_Same.calls k _ _ t106 _ _ y109 t112 _ ?side1 ?side2 ?side3 ?side4 A2.out).mono ?_); (case side1 => repeat (first | exact (Kd.R_reads' HO108.out).2.2 | (with_reducible refine Kd.C_alloc ?_ _) | (with_reducible refine Kd.C_drewN ?_ _) | (with_reducible refine Kd.C_drew ?_))); (case side2 => exact (Kd.R_reads' HO108.out).2.1); (case side3 => repeat (first | exact (Kd.R_reads' HO111.out).2.2 | (with_reducible refine Kd.C_alloc ?_ _) | (with_reducible refine Kd.C_drewN ?_ _) | (with_reducible refine Kd.C_drew ?_))); (case side4 => exact (Kd.R_reads' HO111.out).2.1); rintro e w' ⟨rfl, ⟨nd, rfl⟩⟩; refine ⟨_, rfl, ?_⟩))
  go_ret
  exact ⟨by first | rfl | (simp [errW_none, errW_some] <;> rfl) | (simp [*, errW_none, errW_some] <;> rfl), by repeat (first | (with_reducible first | exact HB.out | apply below_alloc | apply pw_below_drewN | apply below_drew1) | exact HB.out)⟩

/-! ### semigroupref03_SameRows: function 24 -/
def semigroupref03_SameRows.l0 : Nat → List (List Int) → List (List Int) → Int → Int → Option (Bool)
  | 0, _, _, _, _ => none
  | k + 1, x0, x1, x12, x13 => if x13 < x12 then (if 0 ≤ x13 then (if x13 < (x0.length : Int) then (if x13 < (x1.length : Int) then ((semigroupref03_Same.f k (rd_L1 x0 x13) (rd_L1 x1 x13)).bind fun t115 => (if t115 = true then (semigroupref03_SameRows.l0 k x0 x1 x12 (wrap64 (x13 + 1))) else (some false))) else (none)) else (none)) else (none)) else (some true)
def semigroupref03_SameRows.f (k : Nat) (l0 : List (List Int)) (l1 : List (List Int)) : Option (Bool) := if (l0.length : Int) = (l1.length : Int) then (semigroupref03_SameRows.l0 k l0 l1 (l0.length : Int) 0) else (some false)
theorem semigroupref03_SameRows.mono_l : ∀ k, (∀ y0 y1 y2 y3, LeO (semigroupref03_SameRows.l0 k y0 y1 y2 y3) (semigroupref03_SameRows.l0 (k + 1) y0 y1 y2 y3))
  | 0 => fun _ _ _ _ r h => by simp [semigroupref03_SameRows.l0] at h
  | k + 1 => by
    have ih0 := semigroupref03_SameRows.mono_l k
    · intro y0 y1 y2 y3
      unfold semigroupref03_SameRows.l0
      repeat' first
      | (with_reducible exact ih0 _ _ _ _)
      | (with_reducible exact semigroupref03_Same.mono _ _ _)
      | (with_reducible exact LeO.refl _)
      | (with_reducible exact LeO.none _)
      | (with_reducible refine LeO.ite ?_ ?_)
      | (with_reducible refine LeO.bind ?_ (fun _ => ?_))
      | exact ih0 _ _ _ _
      | exact semigroupref03_Same.mono _ _ _
      | exact LeO.none _
      | refine LeO.ite ?_ ?_
      | refine LeO.bind ?_ (fun _ => ?_)
theorem semigroupref03_SameRows.mono : ∀ a0 a1 k, LeO (semigroupref03_SameRows.f k a0 a1) (semigroupref03_SameRows.f (k + 1) a0 a1) := by
  intro a0 a1 k
  have ih0 := semigroupref03_SameRows.mono_l k
  unfold semigroupref03_SameRows.f
  repeat' first
      | (with_reducible exact ih0 _ _ _ _)
      | (with_reducible exact semigroupref03_Same.mono _ _ _)
      | (with_reducible exact LeO.refl _)
      | (with_reducible exact LeO.none _)
      | (with_reducible refine LeO.ite ?_ ?_)
      | (with_reducible refine LeO.bind ?_ (fun _ => ?_))
      | exact ih0 _ _ _ _
      | exact semigroupref03_Same.mono _ _ _
      | exact LeO.none _
      | refine LeO.ite ?_ ?_
      | refine LeO.bind ?_ (fun _ => ?_)
set_option maxHeartbeats 8000000 in
set_option maxRecDepth 100000 in
theorem semigroupref03_SameRows.calls (k : Nat) (A0 : Option Addr) (c0 : Nat) (l0 : List (List Int)) (A1 : Option Addr) (c1 : Nat) (l1 : List (List Int)) (r : Bool) (w : World) (hr0 : Kd.C (Kd.slice 3 (Kd.int .i64)) w A0 l0.length l0) (hc0 : l0.length ≤ c0) (hr1 : Kd.C (Kd.slice 3 (Kd.int .i64)) w A1 l1.length l1) (hc1 : l1.length ≤ c1) (h : semigroupref03_SameRows.f k l0 l1 = some r) :
    Calls Try.prog 24 #[.slice A0 l0.length c0, .slice A1 l1.length c1] w fun e w' => e = .returned (.bool r) ∧ Drawn0 w w' := by
  have HR0 := Aside0.mk hr0
  have HC0 := Aside0.mk hc0
  clear hr0 hc0
  have HR1 := Aside0.mk hr1
  have HC1 := Aside0.mk hc1
  clear hr1 hc1
  have H : (if (l0.length : Int) = (l1.length : Int) then (semigroupref03_SameRows.l0 k l0 l1 (l0.length : Int) 0) else (some false)) = some r := h
  clear h
  by_cases c3 : (l0.length : Int) = (l1.length : Int)
  · rw [if_pos c3] at H
    have c3b0 : ((l0.length : Int) == (l1.length : Int)) = true := beq_iff_eq.mpr c3
    have c3b1 : ((l0.length : Int) != (l1.length : Int)) = false := bne_eq_false_iff_eq.mpr c3
    have c3b2 : (l0.length == l1.length) = true := by first | simpa using c3 | (simp at c3 ⊢; omega)
    clear c3
    have H' := Aside0.mk H
    clear H
    go_enter Try.func24, Try.ntmps24
    go_wp2
    repeat (go_quiet (fail); try go_wp2)
    go_loopg [13] k (fun kq v13 w' => ∃ (x13_1 : Int), v13 = .int .i64 x13_1 ∧ Aside0 (semigroupref03_SameRows.l0 kq l0 l1 (l0.length : Int) x13_1 = some r) ∧ Aside0 (kq ≤ k) ∧ Drawn0 w w')
    case atStart => exact ⟨(0), (by first | rfl | (simp; done) | (simp [*]; done)), H', ⟨Nat.le_refl _⟩, by repeat (first | exact Drawn0.refl _ | apply Drawn0.step)⟩
    case round =>
      clear H'
      try clear c1
      try clear c2
      try clear p2
      try clear c3
      try clear c3b0
      try clear c3b1
      try clear c3b2
      obtain ⟨x13_1, rfl, HA, HK1, ⟨m1, rfl⟩⟩ := hrel
      cases gk with
      | zero => exact absurd HA.out (by simp [semigroupref03_SameRows.l0])
      | succ k1 =>
        have H := HA.out
        clear HA
        simp only [semigroupref03_SameRows.l0] at H
        by_cases c4 : x13_1 < (l0.length : Int)
        · rw [if_pos c4] at H
          have c4b0 : decide (x13_1 < (l0.length : Int)) = true := decide_eq_true c4
          clear c4
          by_cases c5 : 0 ≤ x13_1
          · rw [if_pos c5] at H
            have c5b0 : decide (0 ≤ x13_1) = true := decide_eq_true c5
            clear c5
            by_cases c6 : x13_1 < (l0.length : Int)
            · rw [if_pos c6] at H
              have c6b0 : decide (x13_1 < (l0.length : Int)) = true := decide_eq_true c6
              clear c6
              by_cases c7 : x13_1 < (l1.length : Int)
              · rw [if_pos c7] at H
                have c7b0 : decide (x13_1 < (l1.length : Int)) = true := decide_eq_true c7
                clear c7
                replace H := Option.bind_eq_some_iff.mp H
                obtain ⟨t115, A80, H⟩ := H
                replace H : (if t115 = true then (semigroupref03_SameRows.l0 k1 l0 l1 (l0.length : Int) (wrap64 (x13_1 + 1))) else (some false)) = some r := H
                have A8 := Aside0.mk A80
                clear A80
                by_cases c9 : t115 = true
                · subst c9
                  have H1 : (semigroupref03_SameRows.l0 k1 l0 l1 (l0.length : Int) (wrap64 (x13_1 + 1))) = some r := by rw [if_pos rfl] at H; exact H
                  clear H
                  have H := H1
                  clear H1
                  have H' := Aside0.mk H
                  clear H
                  have p113 : 0 ≤ (x13_1 : Int) := of_decide_eq_true (by first | (with_reducible assumption) | assumption)
                  have q113 : x13_1 < (l0.length : Int) := of_decide_eq_true (by first | (with_reducible assumption) | assumption)
                  obtain ⟨ad113, A113_0, c113_0, e113, hx113_0, hl113_0, hi113_0⟩ := at_L1 HR0.out x13_1 p113 q113
                  cases e113
                  have HR113_0 := Aside0.mk hi113_0
                  have HC113_0 := Aside0.mk hl113_0
                  clear hi113_0 hl113_0
                  replace p113 := eq_true p113
                  replace q113 := eq_true q113
                  have p114 : 0 ≤ (x13_1 : Int) := of_decide_eq_true (by first | (with_reducible assumption) | assumption)
                  have q114 : x13_1 < (l1.length : Int) := of_decide_eq_true (by first | (with_reducible assumption) | assumption)
                  obtain ⟨ad114, A114_0, c114_0, e114, hx114_0, hl114_0, hi114_0⟩ := at_L1 HR1.out x13_1 p114 q114
                  cases e114
                  have HR114_0 := Aside0.mk hi114_0
                  have HC114_0 := Aside0.mk hl114_0
                  clear hi114_0 hl114_0
                  replace p114 := eq_true p114
                  replace q114 := eq_true q114
                  go_wp2_with (first | (go_at_call 16; (with_reducible refine (semigroupref03_Same.calls k1 _ _ (rd_L1 l0 x13_1) _ _ (rd_L1 l1 x13_1) true _ ?side1 ?side2 ?side3 ?side4 A8.out).mono ?_); (case side1 => repeat (first | exact HR113_0.out | (with_reducible refine Kd.C_alloc ?_ _) | (with_reducible refine Kd.C_drewN ?_ _) | (with_reducible refine Kd.C_drew ?_))); (case side2 => exact HC113_0.out); (case side3 => repeat (first | exact HR114_0.out | (with_reducible refine Kd.C_alloc ?_ _) | (with_reducible refine Kd.C_drewN ?_ _) | (with_reducible refine Kd.C_drew ?_))); (case side4 => exact HC114_0.out); rintro e w' ⟨rfl, ⟨nd, rfl⟩⟩; (try first | exact ⟨rfl, _, World.drewN_drewN _ _ _⟩ | exact ⟨rfl, _, Eq.trans (World.drewN_drewN _ _ _) (congrArg (World.drewN _) (Nat.add_assoc _ _ _))⟩)))
                  repeat (go_quiet (first | (go_at_call 16; (with_reducible refine (semigroupref03_Same.calls k1 _ _ (rd_L1 l0 x13_1) _ _ (rd_L1 l1 x13_1) true _ ?side1 ?side2 ?side3 ?side4 A8.out).mono ?_); (case side1 => repeat (first | exact HR113_0.out | (with_reducible refine Kd.C_alloc ?_ _) | (with_reducible refine Kd.C_drewN ?_ _) | (with_reducible refine Kd.C_drew ?_))); (case side2 => exact HC113_0.out); (case side3 => repeat (first | exact HR114_0.out | (with_reducible refine Kd.C_alloc ?_ _) | (with_reducible refine Kd.C_drewN ?_ _) | (with_reducible refine Kd.C_drew ?_))); (case side4 => exact HC114_0.out); rintro e w' ⟨rfl, ⟨nd, rfl⟩⟩; (try first | exact ⟨rfl, _, World.drewN_drewN _ _ _⟩ | exact ⟨rfl, _, Eq.trans (World.drewN_drewN _ _ _) (congrArg (World.drewN _) (Nat.add_assoc _ _ _))⟩))); try go_wp2_with (first | (go_at_call 16; (with_reducible refine (semigroupref03_Same.calls k1 _ _ (rd_L1 l0 x13_1) _ _ (rd_L1 l1 x13_1) true _ ?side1 ?side2 ?side3 ?side4 A8.out).mono ?_); (case side1 => repeat (first | exact HR113_0.out | (with_reducible refine Kd.C_alloc ?_ _) | (with_reducible refine Kd.C_drewN ?_ _) | (with_reducible refine Kd.C_drew ?_))); (case side2 => exact HC113_0.out); (case side3 => repeat (first | exact HR114_0.out | (with_reducible refine Kd.C_alloc ?_ _) | (with_reducible refine Kd.C_drewN ?_ _) | (with_reducible refine Kd.C_drew ?_))); (case side4 => exact HC114_0.out); rintro e w' ⟨rfl, ⟨nd, rfl⟩⟩; (try first | exact ⟨rfl, _, World.drewN_drewN _ _ _⟩ | exact ⟨rfl, _, Eq.trans (World.drewN_drewN _ _ _) (congrArg (World.drewN _) (Nat.add_assoc _ _ _))⟩))))
                  go_roundg k1
                  case measure => have := HK1.out; omega
                  case rel => exact ⟨(wrap64 (x13_1 + 1)), (by first | rfl | (simp; done) | (simp [*]; done)), H', ⟨by have := HK1.out; omega⟩, by repeat (first | exact Drawn0.refl _ | apply Drawn0.step)⟩
                · replace c9 := Bool.eq_false_iff.mpr c9
                  subst c9
                  have H1 : (some false) = some r := by rw [if_neg (show ¬ (false = true) by decide)] at H; exact H
                  clear H
                  have H := H1
                  clear H1
                  obtain rfl := Option.some.inj H
                  have p113 : 0 ≤ (x13_1 : Int) := of_decide_eq_true (by first | (with_reducible assumption) | assumption)
                  have q113 : x13_1 < (l0.length : Int) := of_decide_eq_true (by first | (with_reducible assumption) | assumption)
                  obtain ⟨ad113, A113_0, c113_0, e113, hx113_0, hl113_0, hi113_0⟩ := at_L1 HR0.out x13_1 p113 q113
                  cases e113
                  have HR113_0 := Aside0.mk hi113_0
                  have HC113_0 := Aside0.mk hl113_0
                  clear hi113_0 hl113_0
                  replace p113 := eq_true p113
                  replace q113 := eq_true q113
                  have p114 : 0 ≤ (x13_1 : Int) := of_decide_eq_true (by first | (with_reducible assumption) | assumption)
                  have q114 : x13_1 < (l1.length : Int) := of_decide_eq_true (by first | (with_reducible assumption) | assumption)
                  obtain ⟨ad114, A114_0, c114_0, e114, hx114_0, hl114_0, hi114_0⟩ := at_L1 HR1.out x13_1 p114 q114
                  cases e114
                  have HR114_0 := Aside0.mk hi114_0
                  have HC114_0 := Aside0.mk hl114_0
                  clear hi114_0 hl114_0
                  replace p114 := eq_true p114
                  replace q114 := eq_true q114
                  go_wp2_with (first | (go_at_call 16; (with_reducible refine (semigroupref03_Same.calls k1 _ _ (rd_L1 l0 x13_1) _ _ (rd_L1 l1 x13_1) false _ ?side1 ?side2 ?side3 ?side4 A8.out).mono ?_); (case side1 => repeat (first | exact HR113_0.out | (with_reducible refine Kd.C_alloc ?_ _) | (with_reducible refine Kd.C_drewN ?_ _) | (with_reducible refine Kd.C_drew ?_))); (case side2 => exact HC113_0.out); (case side3 => repeat (first | exact HR114_0.out | (with_reducible refine Kd.C_alloc ?_ _) | (with_reducible refine Kd.C_drewN ?_ _) | (with_reducible refine Kd.C_drew ?_))); (case side4 => exact HC114_0.out); rintro e w' ⟨rfl, ⟨nd, rfl⟩⟩; (try first | exact ⟨rfl, _, World.drewN_drewN _ _ _⟩ | exact ⟨rfl, _, Eq.trans (World.drewN_drewN _ _ _) (congrArg (World.drewN _) (Nat.add_assoc _ _ _))⟩)))
                  repeat (go_quiet (first | (go_at_call 16; (with_reducible refine (semigroupref03_Same.calls k1 _ _ (rd_L1 l0 x13_1) _ _ (rd_L1 l1 x13_1) false _ ?side1 ?side2 ?side3 ?side4 A8.out).mono ?_); (case side1 => repeat (first | exact HR113_0.out | (with_reducible refine Kd.C_alloc ?_ _) | (with_reducible refine Kd.C_drewN ?_ _) | (with_reducible refine Kd.C_drew ?_))); (case side2 => exact HC113_0.out); (case side3 => repeat (first | exact HR114_0.out | (with_reducible refine Kd.C_alloc ?_ _) | (with_reducible refine Kd.C_drewN ?_ _) | (with_reducible refine Kd.C_drew ?_))); (case side4 => exact HC114_0.out); rintro e w' ⟨rfl, ⟨nd, rfl⟩⟩; (try first | exact ⟨rfl, _, World.drewN_drewN _ _ _⟩ | exact ⟨rfl, _, Eq.trans (World.drewN_drewN _ _ _) (congrArg (World.drewN _) (Nat.add_assoc _ _ _))⟩))); try go_wp2_with (first | (go_at_call 16; (with_reducible refine (semigroupref03_Same.calls k1 _ _ (rd_L1 l0 x13_1) _ _ (rd_L1 l1 x13_1) false _ ?side1 ?side2 ?side3 ?side4 A8.out).mono ?_); (case side1 => repeat (first | exact HR113_0.out | (with_reducible refine Kd.C_alloc ?_ _) | (with_reducible refine Kd.C_drewN ?_ _) | (with_reducible refine Kd.C_drew ?_))); (case side2 => exact HC113_0.out); (case side3 => repeat (first | exact HR114_0.out | (with_reducible refine Kd.C_alloc ?_ _) | (with_reducible refine Kd.C_drewN ?_ _) | (with_reducible refine Kd.C_drew ?_))); (case side4 => exact HC114_0.out); rintro e w' ⟨rfl, ⟨nd, rfl⟩⟩; (try first | exact ⟨rfl, _, World.drewN_drewN _ _ _⟩ | exact ⟨rfl, _, Eq.trans (World.drewN_drewN _ _ _) (congrArg (World.drewN _) (Nat.add_assoc _ _ _))⟩))))
                  go_ret
                  exact ⟨by first | rfl | (simp; done) | (simp [*]; done), by repeat (first | exact Drawn0.refl _ | apply Drawn0.step)⟩
              · rw [if_neg c7] at H
                exact absurd H (by simp)
            · rw [if_neg c6] at H
              exact absurd H (by simp)
          · rw [if_neg c5] at H
            exact absurd H (by simp)
        · rw [if_neg c4] at H
          have c4b0 : decide (x13_1 < (l0.length : Int)) = false := decide_eq_false c4
          clear c4
          obtain rfl := Option.some.inj H
          go_wp2
          repeat (go_quiet (fail); try go_wp2)
          go_ret
          exact ⟨by first | rfl | (simp; done) | (simp [*]; done), by repeat (first | exact Drawn0.refl _ | apply Drawn0.step)⟩
  · rw [if_neg c3] at H
    have c3b0 : ((l0.length : Int) == (l1.length : Int)) = false := beq_eq_false_iff_ne.mpr c3
    have c3b1 : ((l0.length : Int) != (l1.length : Int)) = true := bne_iff_ne.mpr c3
    have c3b2 : (l0.length == l1.length) = false := by first | simpa using c3 | (simp at c3 ⊢; omega)
    obtain rfl := Option.some.inj H
    go_enter Try.func24, Try.ntmps24
    go_wp2
    repeat (go_quiet (fail); try go_wp2)
    go_ret
    exact ⟨by first | rfl | (simp; done) | (simp [*]; done), by repeat (first | exact Drawn0.refl _ | apply Drawn0.step)⟩

/-! ### partition_Valid: function 18 -/
mutual
def partition_Valid.l0 : Nat → Int → List Int → Int → Int → Option (Bool)
  | 0, _, _, _, _ => none
  | k + 1, x3, x9, x10, x11 => if x11 < x10 then (if 0 ≤ x11 then (if x11 < (x9.length : Int) then (if (rd x9 x11) < 0 then (partition_Valid.j1 k x3 (rd x9 x11) x9 x10 x11 true) else (partition_Valid.j1 k x3 (rd x9 x11) x9 x10 x11 (decide ((rd x9 x11) > x3)))) else (none)) else (none)) else (some true)
def partition_Valid.j1 : Nat → Int → Int → List Int → Int → Int → Bool → Option (Bool)
  | 0, _, _, _, _, _, _ => none
  | k + 1, x3, x5, x9, x10, x11, x21 => if x21 = true then (some false) else (if x5 = x3 then (partition_Valid.l0 k (wrap64 (x3 + 1)) x9 x10 (wrap64 (x11 + 1))) else (partition_Valid.l0 k x3 x9 x10 (wrap64 (x11 + 1))))
end
def partition_Valid.f (k : Nat) (l0 : List Int) : Option (Bool) := if (l0.length : Int) > 4096 then (some false) else (partition_Valid.l0 k 0 l0 (l0.length : Int) 0)
theorem partition_Valid.mono_l : ∀ k, (∀ y0 y1 y2 y3, LeO (partition_Valid.l0 k y0 y1 y2 y3) (partition_Valid.l0 (k + 1) y0 y1 y2 y3)) ∧ (∀ y0 y1 y2 y3 y4 y5, LeO (partition_Valid.j1 k y0 y1 y2 y3 y4 y5) (partition_Valid.j1 (k + 1) y0 y1 y2 y3 y4 y5))
  | 0 => ⟨fun _ _ _ _ r h => by simp [partition_Valid.l0] at h, fun _ _ _ _ _ _ r h => by simp [partition_Valid.j1] at h⟩
  | k + 1 => by
    obtain ⟨ih0, ih1⟩ := partition_Valid.mono_l k
    refine ⟨?_, ?_⟩
    · intro y0 y1 y2 y3
      unfold partition_Valid.l0
      repeat' first
      | (with_reducible exact ih0 _ _ _ _)
      | (with_reducible exact ih1 _ _ _ _ _ _)
      | (with_reducible exact LeO.refl _)
      | (with_reducible exact LeO.none _)
      | (with_reducible refine LeO.ite ?_ ?_)
      | (with_reducible refine LeO.bind ?_ (fun _ => ?_))
      | exact ih0 _ _ _ _
      | exact ih1 _ _ _ _ _ _
      | exact LeO.none _
      | refine LeO.ite ?_ ?_
      | refine LeO.bind ?_ (fun _ => ?_)
    · intro y0 y1 y2 y3 y4 y5
      unfold partition_Valid.j1
      repeat' first
      | (with_reducible exact ih0 _ _ _ _)
      | (with_reducible exact ih1 _ _ _ _ _ _)
      | (with_reducible exact LeO.refl _)
      | (with_reducible exact LeO.none _)
      | (with_reducible refine LeO.ite ?_ ?_)
      | (with_reducible refine LeO.bind ?_ (fun _ => ?_))
      | exact ih0 _ _ _ _
      | exact ih1 _ _ _ _ _ _
      | exact LeO.none _
      | refine LeO.ite ?_ ?_
      | refine LeO.bind ?_ (fun _ => ?_)
theorem partition_Valid.mono : ∀ a0 k, LeO (partition_Valid.f k a0) (partition_Valid.f (k + 1) a0) := by
  intro a0 k
  obtain ⟨ih0, ih1⟩ := partition_Valid.mono_l k
  unfold partition_Valid.f
  repeat' first
      | (with_reducible exact ih0 _ _ _ _)
      | (with_reducible exact ih1 _ _ _ _ _ _)
      | (with_reducible exact LeO.refl _)
      | (with_reducible exact LeO.none _)
      | (with_reducible refine LeO.ite ?_ ?_)
      | (with_reducible refine LeO.bind ?_ (fun _ => ?_))
      | exact ih0 _ _ _ _
      | exact ih1 _ _ _ _ _ _
      | exact LeO.none _
      | refine LeO.ite ?_ ?_
      | refine LeO.bind ?_ (fun _ => ?_)
set_option maxHeartbeats 8000000 in
set_option maxRecDepth 100000 in
theorem partition_Valid.calls (k : Nat) (A0 : Option Addr) (c0 : Nat) (l0 : List Int) (r : Bool) (w : World) (hr0 : Kd.C (Kd.int .i64) w A0 l0.length l0) (hc0 : l0.length ≤ c0) (h : partition_Valid.f k l0 = some r) :
    Calls Try.prog 18 #[.slice A0 l0.length c0] w fun e w' => e = .returned (.bool r) ∧ Drawn0 w w' := by
  have HR0 := Aside0.mk hr0
  have HC0 := Aside0.mk hc0
  clear hr0 hc0
  have H : (if (l0.length : Int) > 4096 then (some false) else (partition_Valid.l0 k 0 l0 (l0.length : Int) 0)) = some r := h
  clear h
  by_cases c2 : (l0.length : Int) > 4096
  · rw [if_pos c2] at H
    have c2b0 : decide (4096 < (l0.length : Int)) = true := decide_eq_true c2
    have c2b1 : decide (4096 < l0.length) = true := decide_eq_true (by omega)
    clear c2
    obtain rfl := Option.some.inj H
    go_enter Try.func18, Try.ntmps18
    go_wp2
    go_ret
    exact ⟨by first | rfl | (simp; done) | (simp [*]; done), by repeat (first | exact Drawn0.refl _ | apply Drawn0.step)⟩
  · rw [if_neg c2] at H
    have c2b0 : decide (4096 < (l0.length : Int)) = false := decide_eq_false c2
    have c2b1 : decide (4096 < l0.length) = false := decide_eq_false (by omega)
    clear c2
    have H' := Aside0.mk H
    clear H
    go_enter Try.func18, Try.ntmps18
    go_wp2
    go_loopg [3, 11] k (fun kq v3 v11 w' => ∃ (x3_1 : Int) (x11_1 : Int), v3 = .int .i64 x3_1 ∧ v11 = .int .i64 x11_1 ∧ Aside0 (partition_Valid.l0 kq x3_1 l0 (l0.length : Int) x11_1 = some r) ∧ Aside0 (kq ≤ k) ∧ Drawn0 w w')
    case atStart => exact ⟨(0), (0), (by first | rfl | (simp; done) | (simp [*]; done)), (by first | rfl | (simp; done) | (simp [*]; done)), H', ⟨Nat.le_refl _⟩, by repeat (first | exact Drawn0.refl _ | apply Drawn0.step)⟩
    case round =>
      clear H'
      try clear c1
      try clear c2
      try clear c2b0
      try clear c2b1
      try clear p2
      obtain ⟨x3_1, x11_1, rfl, rfl, HA, HK1, ⟨m1, rfl⟩⟩ := hrel
      cases gk with
      | zero => exact absurd HA.out (by simp [partition_Valid.l0])
      | succ k1 =>
        have H := HA.out
        clear HA
        simp only [partition_Valid.l0] at H
        by_cases c3 : x11_1 < (l0.length : Int)
        · rw [if_pos c3] at H
          have c3b0 : decide (x11_1 < (l0.length : Int)) = true := decide_eq_true c3
          clear c3
          by_cases c4 : 0 ≤ x11_1
          · rw [if_pos c4] at H
            have c4b0 : decide (0 ≤ x11_1) = true := decide_eq_true c4
            clear c4
            by_cases c5 : x11_1 < (l0.length : Int)
            · rw [if_pos c5] at H
              have c5b0 : decide (x11_1 < (l0.length : Int)) = true := decide_eq_true c5
              clear c5
              have HC6 := Aside0.mk H
              clear H
              have p116 : 0 ≤ (x11_1 : Int) := of_decide_eq_true (by first | (with_reducible assumption) | assumption)
              have q116 : x11_1 < (l0.length : Int) := of_decide_eq_true (by first | (with_reducible assumption) | assumption)
              obtain ⟨ad116, e116, hx116_0⟩ := Kd.at_int HR0.out x11_1 p116 q116
              cases e116
              replace p116 := eq_true p116
              replace q116 := eq_true q116
              go_upto_region 7 with (fail)
              go_cut [21] (fun v21 wc => ∃ (kq : Nat) (x21_5 : Bool), v21 = .bool x21_5 ∧ Aside0 (partition_Valid.j1 kq x3_1 (rd l0 x11_1) l0 (l0.length : Int) x11_1 x21_5 = some r) ∧ Aside0 (kq ≤ k1) ∧ Drawn0 w wc)
              case first =>
                have H := HC6.out
                clear HC6
                by_cases c7 : (rd l0 x11_1) < 0
                · rw [if_pos c7] at H
                  have c7b0 : decide ((rd l0 x11_1) < 0) = true := decide_eq_true c7
                  clear c7
                  (first | rw [c7b0] | (simp only [i64_w, i32_w]; rw [c7b0]) | skip)
                  have H' := Aside0.mk H
                  clear H
                  go_wp2
                  go_meet
                  case rel => exact ⟨_, (true), (by first | rfl | (simp; done) | (simp [*]; done)), H', ⟨by have := HK1.out; first | omega | exact Nat.le_refl _⟩, by repeat (first | exact Drawn0.refl _ | apply Drawn0.step)⟩
                · rw [if_neg c7] at H
                  have c7b0 : decide ((rd l0 x11_1) < 0) = false := decide_eq_false c7
                  clear c7
                  (first | rw [c7b0] | (simp only [i64_w, i32_w]; rw [c7b0]) | skip)
                  have H' := Aside0.mk H
                  clear H
                  go_wp2
                  go_meet
                  case rel => exact ⟨_, (decide ((rd l0 x11_1) > x3_1)), (by first | rfl | (simp; done) | (simp [*]; done)), H', ⟨by have := HK1.out; first | omega | exact Nat.le_refl _⟩, by repeat (first | exact Drawn0.refl _ | apply Drawn0.step)⟩
              case rest =>
                clear HC6
                try clear c1
                try clear p1
                try clear q1
                try clear hx1
                try clear c2
                try clear c2b0
                try clear c2b1
                try clear p2
                try clear c3
                try clear c3b0
                try clear c4
                try clear c4b0
                try clear c5
                try clear c5b0
                try clear c7
                try clear c7b0
                try clear hx116_0
                try clear p116
                try clear p2
                try clear q116
                obtain ⟨kq, x21_5, rfl, HA, HJ5, ⟨mc5, rfl⟩⟩ := hcut
                cases kq with
                | zero => exact absurd HA.out (by simp [partition_Valid.j1])
                | succ kj5 =>
                  have H := HA.out
                  clear HA
                  simp only [partition_Valid.j1] at H
                  by_cases c8 : x21_5 = true
                  · subst c8
                    have H1 : (some false) = some r := by rw [if_pos rfl] at H; exact H
                    clear H
                    have H := H1
                    clear H1
                    obtain rfl := Option.some.inj H
                    go_wp2
                    go_ret
                    exact ⟨by first | rfl | (simp; done) | (simp [*]; done), by repeat (first | exact Drawn0.refl _ | apply Drawn0.step)⟩
                  · replace c8 := Bool.eq_false_iff.mpr c8
                    subst c8
                    have H1 : (if (rd l0 x11_1) = x3_1 then (partition_Valid.l0 kj5 (wrap64 (x3_1 + 1)) l0 (l0.length : Int) (wrap64 (x11_1 + 1))) else (partition_Valid.l0 kj5 x3_1 l0 (l0.length : Int) (wrap64 (x11_1 + 1)))) = some r := by rw [if_neg (show ¬ (false = true) by decide)] at H; exact H
                    clear H
                    have H := H1
                    clear H1
                    by_cases c9 : (rd l0 x11_1) = x3_1
                    · rw [if_pos c9] at H
                      have c9b0 : ((rd l0 x11_1) == x3_1) = true := beq_iff_eq.mpr c9
                      have c9b1 : ((rd l0 x11_1) != x3_1) = false := bne_eq_false_iff_eq.mpr c9
                      clear c9
                      have H' := Aside0.mk H
                      clear H
                      go_wp2
                      go_roundg kj5
                      case measure => have := HK1.out; have := HJ5.out; omega
                      case rel => exact ⟨(wrap64 (x3_1 + 1)), (wrap64 (x11_1 + 1)), (by first | rfl | (simp; done) | (simp [*]; done)), (by first | rfl | (simp; done) | (simp [*]; done)), H', ⟨by have := HK1.out; have := HJ5.out; omega⟩, by repeat (first | exact Drawn0.refl _ | apply Drawn0.step)⟩
                    · rw [if_neg c9] at H
                      have c9b0 : ((rd l0 x11_1) == x3_1) = false := beq_eq_false_iff_ne.mpr c9
                      have c9b1 : ((rd l0 x11_1) != x3_1) = true := bne_iff_ne.mpr c9
                      have H' := Aside0.mk H
                      clear H
                      go_wp2
                      go_roundg kj5
                      case measure => have := HK1.out; have := HJ5.out; omega
                      case rel => exact ⟨(x3_1), (wrap64 (x11_1 + 1)), (by first | rfl | (simp; done) | (simp [*]; done)), (by first | rfl | (simp; done) | (simp [*]; done)), H', ⟨by have := HK1.out; have := HJ5.out; omega⟩, by repeat (first | exact Drawn0.refl _ | apply Drawn0.step)⟩
            · rw [if_neg c5] at H
              exact absurd H (by simp)
          · rw [if_neg c4] at H
            exact absurd H (by simp)
        · rw [if_neg c3] at H
          have c3b0 : decide (x11_1 < (l0.length : Int)) = false := decide_eq_false c3
          clear c3
          obtain rfl := Option.some.inj H
          go_wp2
          go_ret
          exact ⟨by first | rfl | (simp; done) | (simp [*]; done), by repeat (first | exact Drawn0.refl _ | apply Drawn0.step)⟩

/-! ### partition_Count: function 21 -/
def partition_Count.l0 : Nat → Int → List Int → Int → Int → Option (Int)
  | 0, _, _, _, _ => none
  | k + 1, x3, x9, x10, x11 => if x11 < x10 then (if 0 ≤ x11 then (if x11 < (x9.length : Int) then (partition_Count.l0 k (mx x3 (wrap64 ((rd x9 x11) + 1))) x9 x10 (wrap64 (x11 + 1))) else (none)) else (none)) else (some x3)
def partition_Count.f (k : Nat) (l0 : List Int) : Option (Int) := (partition_Valid.f k l0).bind fun t117 => (if t117 = true then (partition_Count.l0 k 0 l0 (l0.length : Int) 0) else (some 0))
theorem partition_Count.mono_l : ∀ k, (∀ y0 y1 y2 y3, LeO (partition_Count.l0 k y0 y1 y2 y3) (partition_Count.l0 (k + 1) y0 y1 y2 y3))
  | 0 => fun _ _ _ _ r h => by simp [partition_Count.l0] at h
  | k + 1 => by
    have ih0 := partition_Count.mono_l k
    · intro y0 y1 y2 y3
      unfold partition_Count.l0
      repeat' first
      | (with_reducible exact ih0 _ _ _ _)
      | (with_reducible exact partition_Valid.mono _ _)
      | (with_reducible exact LeO.refl _)
      | (with_reducible exact LeO.none _)
      | (with_reducible refine LeO.ite ?_ ?_)
      | (with_reducible refine LeO.bind ?_ (fun _ => ?_))
      | exact ih0 _ _ _ _
      | exact partition_Valid.mono _ _
      | exact LeO.none _
      | refine LeO.ite ?_ ?_
      | refine LeO.bind ?_ (fun _ => ?_)
theorem partition_Count.mono : ∀ a0 k, LeO (partition_Count.f k a0) (partition_Count.f (k + 1) a0) := by
  intro a0 k
  have ih0 := partition_Count.mono_l k
  unfold partition_Count.f
  repeat' first
      | (with_reducible exact ih0 _ _ _ _)
      | (with_reducible exact partition_Valid.mono _ _)
      | (with_reducible exact LeO.refl _)
      | (with_reducible exact LeO.none _)
      | (with_reducible refine LeO.ite ?_ ?_)
      | (with_reducible refine LeO.bind ?_ (fun _ => ?_))
      | exact ih0 _ _ _ _
      | exact partition_Valid.mono _ _
      | exact LeO.none _
      | refine LeO.ite ?_ ?_
      | refine LeO.bind ?_ (fun _ => ?_)
set_option maxHeartbeats 8000000 in
set_option maxRecDepth 100000 in
theorem partition_Count.calls (k : Nat) (A0 : Option Addr) (c0 : Nat) (l0 : List Int) (r : Int) (w : World) (hr0 : Kd.C (Kd.int .i64) w A0 l0.length l0) (hc0 : l0.length ≤ c0) (h : partition_Count.f k l0 = some r) :
    Calls Try.prog 21 #[.slice A0 l0.length c0] w fun e w' => e = .returned (.int .i64 r) ∧ Below w.heap.size w w' := by
  have HR0 := Aside0.mk hr0
  have HC0 := Aside0.mk hc0
  clear hr0 hc0
  have HB := Aside0.mk (Below.refl w.heap.size w)
  have H : ((partition_Valid.f k l0).bind fun t117 => (if t117 = true then (partition_Count.l0 k 0 l0 (l0.length : Int) 0) else (some 0))) = some r := h
  clear h
  replace H := Option.bind_eq_some_iff.mp H
  obtain ⟨t117, A20, H⟩ := H
  replace H : (if t117 = true then (partition_Count.l0 k 0 l0 (l0.length : Int) 0) else (some 0)) = some r := H
  have A2 := Aside0.mk A20
  clear A20
  by_cases c3 : t117 = true
  · subst c3
    have H1 : (partition_Count.l0 k 0 l0 (l0.length : Int) 0) = some r := by rw [if_pos rfl] at H; exact H
    clear H
    have H := H1
    clear H1
    have H' := Aside0.mk H
    clear H
    go_enter Try.func21, Try.ntmps21
    go_wp2_with (first | ((with_reducible refine gate_callee (f := 18) rfl ?_); refine goesL_ (some 7) rfl rfl Try.func18 (by kernel_rfl) rfl #[.slice A0 l0.length c0] rfl (by (try simp only [List.map_toArray, List.map_cons, List.map_nil]); first | done | rfl | (simp only [List.length_drop, List.length_take]; rfl)) ?_; (with_reducible refine (partition_Valid.calls k _ _ l0 true _ ?side1 ?side2 A2.out).mono ?_); (case side1 => repeat (first | exact HR0.out | (with_reducible refine Kd.C_alloc ?_ _) | (with_reducible refine Kd.C_drewN ?_ _) | (with_reducible refine Kd.C_drew ?_))); (case side2 => exact HC0.out); rintro e w' ⟨rfl, ⟨nd, rfl⟩⟩; refine ⟨_, rfl, ?_⟩))
    go_loopg [3, 11] k (fun kq v3 v11 w' => ∃ (x3_1 : Int) (x11_1 : Int), v3 = .int .i64 x3_1 ∧ v11 = .int .i64 x11_1 ∧ Aside0 (partition_Count.l0 kq x3_1 l0 (l0.length : Int) x11_1 = some r) ∧ Aside0 (kq ≤ k) ∧ Aside0 (Below w.heap.size w w'))
    case atStart => exact ⟨(0), (0), (by first | rfl | (simp; done) | (simp [*]; done)), (by first | rfl | (simp; done) | (simp [*]; done)), H', ⟨Nat.le_refl _⟩, ⟨by repeat (first | (with_reducible first | exact HB.out | apply below_alloc | apply pw_below_drewN | apply below_drew1) | exact HB.out)⟩⟩
    case round =>
      clear H'
      try clear c1
      try clear c2
      try clear p2
      try clear c3
      obtain ⟨x3_1, x11_1, rfl, rfl, HA, HK1, HB⟩ := hrel
      cases gk with
      | zero => exact absurd HA.out (by simp [partition_Count.l0])
      | succ k1 =>
        have H := HA.out
        clear HA
        simp only [partition_Count.l0] at H
        by_cases c4 : x11_1 < (l0.length : Int)
        · rw [if_pos c4] at H
          have c4b0 : decide (x11_1 < (l0.length : Int)) = true := decide_eq_true c4
          clear c4
          by_cases c5 : 0 ≤ x11_1
          · rw [if_pos c5] at H
            have c5b0 : decide (0 ≤ x11_1) = true := decide_eq_true c5
            clear c5
            by_cases c6 : x11_1 < (l0.length : Int)
            · rw [if_pos c6] at H
              have c6b0 : decide (x11_1 < (l0.length : Int)) = true := decide_eq_true c6
              clear c6
              obtain ⟨ji7, hji7⟩ : ∃ j_ : Int, (mx x3_1 (wrap64 ((rd l0 x11_1) + 1))) = j_ := ⟨_, rfl⟩
              replace H : (partition_Count.l0 k1 ji7 l0 (l0.length : Int) (wrap64 (x11_1 + 1))) = some r := by first | (rw [hji7] at H; exact H) | (simp only [hji7] at H ⊢; exact H)
              have hji7_ : (if x3_1 < (wrap64 ((rd l0 x11_1) + 1)) then (wrap64 ((rd l0 x11_1) + 1)) else x3_1) = ji7 := hji7
              have H' := Aside0.mk H
              clear H
              have p118 : 0 ≤ (x11_1 : Int) := of_decide_eq_true (by first | (with_reducible assumption) | assumption)
              have q118 : x11_1 < (l0.length : Int) := of_decide_eq_true (by first | (with_reducible assumption) | assumption)
              obtain ⟨ad118, e118, hx118_0⟩ := Kd.at_int HR0.out x11_1 p118 q118
              cases e118
              (try replace hx118_0 := (HB.out.cell (World.block_lt_of_cell? w _ hx118_0)).trans hx118_0)
              replace p118 := eq_true p118
              replace q118 := eq_true q118
              go_wp2
              go_roundg k1
              case measure => have := HK1.out; omega
              case rel => exact ⟨(ji7), (wrap64 (x11_1 + 1)), (by first | rfl | (simp; done) | (simp only [← hji7] <;> (first | rfl | simp)) | (simp [*]; done)), (by first | rfl | (simp; done) | (simp [*]; done)), H', ⟨by have := HK1.out; omega⟩, ⟨by repeat (first | (with_reducible first | exact HB.out | apply below_alloc | apply pw_below_drewN | apply below_drew1) | exact HB.out)⟩⟩
            · rw [if_neg c6] at H
              exact absurd H (by simp)
          · rw [if_neg c5] at H
            exact absurd H (by simp)
        · rw [if_neg c4] at H
          have c4b0 : decide (x11_1 < (l0.length : Int)) = false := decide_eq_false c4
          clear c4
          obtain rfl := Option.some.inj H
          go_wp2
          go_ret
          exact ⟨by first | rfl | (simp [errW_none, errW_some] <;> rfl) | (simp [*, errW_none, errW_some] <;> rfl), by repeat (first | (with_reducible first | exact HB.out | apply below_alloc | apply pw_below_drewN | apply below_drew1) | exact HB.out)⟩
  · replace c3 := Bool.eq_false_iff.mpr c3
    subst c3
    have H1 : (some 0) = some r := by rw [if_neg (show ¬ (false = true) by decide)] at H; exact H
    clear H
    have H := H1
    clear H1
    obtain rfl := Option.some.inj H
    go_enter Try.func21, Try.ntmps21
    go_wp2_with (first | ((with_reducible refine gate_callee (f := 18) rfl ?_); refine goesL_ (some 7) rfl rfl Try.func18 (by kernel_rfl) rfl #[.slice A0 l0.length c0] rfl (by (try simp only [List.map_toArray, List.map_cons, List.map_nil]); first | done | rfl | (simp only [List.length_drop, List.length_take]; rfl)) ?_; (with_reducible refine (partition_Valid.calls k _ _ l0 false _ ?side1 ?side2 A2.out).mono ?_); (case side1 => repeat (first | exact HR0.out | (with_reducible refine Kd.C_alloc ?_ _) | (with_reducible refine Kd.C_drewN ?_ _) | (with_reducible refine Kd.C_drew ?_))); (case side2 => exact HC0.out); rintro e w' ⟨rfl, ⟨nd, rfl⟩⟩; refine ⟨_, rfl, ?_⟩))
    go_ret
    exact ⟨by first | rfl | (simp [errW_none, errW_some] <;> rfl) | (simp [*, errW_none, errW_some] <;> rfl), by repeat (first | (with_reducible first | exact HB.out | apply below_alloc | apply pw_below_drewN | apply below_drew1) | exact HB.out)⟩

end Go.Proofs.Ytjpghckijecdcaa.PPartitionAll
