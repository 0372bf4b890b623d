-- by hp.py of this repo, over the kit's print: Lean checks it
import Derived.Test.YtjpghckijecdcaaPPartitionJoinsx0
import Derived.Test.YtjpghckijecdcaaPPartitionJoinsx1
namespace Go.Proofs.Ytjpghckijecdcaa.PPartitionJoins
open Go.RowKit Go.Proofs.YtjpghckijecdcaaH Go.Proofs.YtjpghckijecdcaaW.PrintWords Go.Proofs.YtjpghckijecdcaaW.PrintLast Go.Proofs.YtjpghckijecdcaaW.PrintMore
attribute [local go_sem] max2_int min2_int max_two min_two max_three min_three max_four min_four   -- for this text's walks alone
set_option linter.unusedVariables false
set_option linter.unusedSimpArgs false

/-! ### partition_Classes: function 22 -/
def partition_Classes.l0 : Nat → List (List Int) → List Int → Int → Int → Option ((List (List Int)))
  | 0, _, _, _, _ => none
  | k + 1, x3, x12, x13, x14 => if x14 < x13 then (if 0 ≤ x14 then (if x14 < (x12.length : Int) then (if 0 ≤ (rd x12 x14) then (if (rd x12 x14) < (x3.length : Int) then (if (rd_L1 x3 (rd x12 x14)).length < 17592186044416 then (partition_Classes.l0 k (x3.set ((rd x12 x14) : Int).toNat ((rd_L1 x3 (rd x12 x14)) ++ [x14])) x12 x13 (wrap64 (x14 + 1))) else (none)) else (none)) else (none)) else (none)) else (none)) else (some x3)
def partition_Classes.f (k : Nat) (l0 : List Int) : Option ((List (List Int))) := (partition_Valid.f k l0).bind fun t120 => (if t120 = true then ((partition_Count.f k l0).bind fun t121 => (if 0 ≤ t121 then (if (t121 : Int).toNat ≤ 11728124029610 then (partition_Classes.l0 k (List.replicate (t121 : Int).toNat []) l0 (l0.length : Int) 0) else (none)) else (none))) else (some ([] : List (List Int))))
theorem partition_Classes.mono_l : ∀ k, (∀ y0 y1 y2 y3, LeO (partition_Classes.l0 k y0 y1 y2 y3) (partition_Classes.l0 (k + 1) y0 y1 y2 y3))
  | 0 => fun _ _ _ _ r h => by simp [partition_Classes.l0] at h
  | k + 1 => by
    have ih0 := partition_Classes.mono_l k
    · intro y0 y1 y2 y3
      unfold partition_Classes.l0
      repeat' first
      | (with_reducible exact ih0 _ _ _ _)
      | (with_reducible exact partition_Count.mono _ _)
      | (with_reducible exact partition_Valid.mono _ _)
      | (with_reducible exact LeO.refl _)
      | (with_reducible exact LeO.none _)
      | (with_reducible refine LeO.ite ?_ ?_)
      | (with_reducible refine LeO.bind ?_ (fun _ => ?_))
      | exact ih0 _ _ _ _
      | exact partition_Count.mono _ _
      | exact partition_Valid.mono _ _
      | exact LeO.none _
      | refine LeO.ite ?_ ?_
      | refine LeO.bind ?_ (fun _ => ?_)
theorem partition_Classes.mono : ∀ a0 k, LeO (partition_Classes.f k a0) (partition_Classes.f (k + 1) a0) := by
  intro a0 k
  have ih0 := partition_Classes.mono_l k
  unfold partition_Classes.f
  repeat' first
      | (with_reducible exact ih0 _ _ _ _)
      | (with_reducible exact partition_Count.mono _ _)
      | (with_reducible exact partition_Valid.mono _ _)
      | (with_reducible exact LeO.refl _)
      | (with_reducible exact LeO.none _)
      | (with_reducible refine LeO.ite ?_ ?_)
      | (with_reducible refine LeO.bind ?_ (fun _ => ?_))
      | exact ih0 _ _ _ _
      | exact partition_Count.mono _ _
      | exact partition_Valid.mono _ _
      | exact LeO.none _
      | refine LeO.ite ?_ ?_
      | refine LeO.bind ?_ (fun _ => ?_)
set_option maxHeartbeats 8000000 in
set_option maxRecDepth 100000 in
theorem partition_Classes.calls (k : Nat) (A0 : Option Addr) (c0 : Nat) (l0 : List Int) (r : List (List Int)) (w : World) (hr0 : Kd.C (Kd.int .i64) w A0 l0.length l0) (hc0 : l0.length ≤ c0) (h : partition_Classes.f k l0 = some r) :
    Calls Try.prog 22 #[.slice A0 l0.length c0] w fun e w' => ∃ v0_ : Value, e = .returned (v0_) ∧ Kd.S (Kd.slice 3 (Kd.int .i64)) 22 w' w.heap.size (fun _ => True) v0_ r ∧ Below w.heap.size w w' := by
  have HR0 := Aside0.mk hr0
  have HC0 := Aside0.mk hc0
  clear hr0 hc0
  have HB := Aside0.mk (Below.refl w.heap.size w)
  have H : ((partition_Valid.f k l0).bind fun t120 => (if t120 = true then ((partition_Count.f k l0).bind fun t121 => (if 0 ≤ t121 then (if (t121 : Int).toNat ≤ 11728124029610 then (partition_Classes.l0 k (List.replicate (t121 : Int).toNat []) l0 (l0.length : Int) 0) else (none)) else (none))) else (some ([] : List (List Int))))) = some r := h
  clear h
  replace H := Option.bind_eq_some_iff.mp H
  obtain ⟨t120, A20, H⟩ := H
  replace H : (if t120 = true then ((partition_Count.f k l0).bind fun t121 => (if 0 ≤ t121 then (if (t121 : Int).toNat ≤ 11728124029610 then (partition_Classes.l0 k (List.replicate (t121 : Int).toNat []) l0 (l0.length : Int) 0) else (none)) else (none))) else (some ([] : List (List Int)))) = some r := H
  have A2 := Aside0.mk A20
  clear A20
  by_cases c3 : t120 = true
  · subst c3
    have H1 : ((partition_Count.f k l0).bind fun t121 => (if 0 ≤ t121 then (if (t121 : Int).toNat ≤ 11728124029610 then (partition_Classes.l0 k (List.replicate (t121 : Int).toNat []) l0 (l0.length : Int) 0) else (none)) else (none))) = some r := by rw [if_pos rfl] at H; exact H
    clear H
    have H := H1
    clear H1
    replace H := Option.bind_eq_some_iff.mp H
    obtain ⟨t121, A40, H⟩ := H
    replace H : (if 0 ≤ t121 then (if (t121 : Int).toNat ≤ 11728124029610 then (partition_Classes.l0 k (List.replicate (t121 : Int).toNat []) l0 (l0.length : Int) 0) else (none)) else (none)) = some r := H
    have A4 := Aside0.mk A40
    clear A40
    by_cases c5 : 0 ≤ t121
    · rw [if_pos c5] at H
      have c5b0 := eq_true c5
      have c5b1 : decide (0 ≤ t121) = true := decide_eq_true c5
      clear c5
      by_cases c6 : (t121 : Int).toNat ≤ 11728124029610
      · rw [if_pos c6] at H
        have c6b0 := eq_true c6
        have c6b1 : decide ((t121 : Int).toNat ≤ 11728124029610) = true := decide_eq_true c6
        clear c6
        obtain ⟨y122, hy122⟩ : ∃ y_ : List (List Int), y_ = (List.replicate (t121 : Int).toNat []) := ⟨_, rfl⟩
        replace H : (partition_Classes.l0 k y122 l0 (l0.length : Int) 0) = some r := by first | (rw [hy122]; with_reducible exact H) | (have H2_ := (Option.bind_some _ _).symm.trans H; rw [hy122]; with_reducible exact H2_) | (have H2_ := (Option.bind_some _ _).symm.trans H; with_reducible exact H2_) | with_reducible exact H | (rw [hy122]; exact H) | exact H
        have Ny122 := Aside0.mk hy122
        clear hy122
        have H' := Aside0.mk H
        clear H
        go_enter Try.func22, Try.ntmps22
        go_wp2_with (first | ((with_reducible refine gate_callee (f := 18) rfl ?_); refine goesL_ (some 7) rfl rfl Try.func18 (by kernel_rfl) rfl #[.slice A0 l0.length c0] rfl (by (try simp only [List.map_toArray, List.map_cons, List.map_nil]); first | done | rfl | (simp only [List.length_drop, List.length_take]; rfl)) ?_; (with_reducible refine (partition_Valid.calls k _ _ l0 true _ ?side1 ?side2 A2.out).mono ?_); (case side1 => repeat (first | exact HR0.out | (with_reducible refine Kd.C_alloc ?_ _) | (with_reducible refine Kd.C_drewN ?_ _) | (with_reducible refine Kd.C_drew ?_))); (case side2 => exact HC0.out); rintro e w' ⟨rfl, ⟨nd, rfl⟩⟩; refine ⟨_, rfl, ?_⟩) | ((with_reducible refine gate_callee (f := 21) rfl ?_); refine goesL_ (some 10) rfl rfl Try.func21 (by kernel_rfl) rfl #[.slice A0 l0.length c0] rfl (by (try simp only [List.map_toArray, List.map_cons, List.map_nil]); first | done | rfl | (simp only [List.length_drop, List.length_take]; rfl)) ?_; (with_reducible refine (partition_Count.calls k _ _ l0 t121 _ ?side1 ?side2 A4.out).mono ?_); (case side1 => repeat (first | exact HR0.out | (with_reducible refine Kd.C_alloc ?_ _) | (with_reducible refine Kd.C_drewN ?_ _) | (with_reducible refine Kd.C_drew ?_))); (case side2 => exact HC0.out); rintro e w7 ⟨rfl, hb⟩; refine ⟨_, rfl, ?_⟩; have n0_ := Aside0.mk (below_step (by repeat (first | (with_reducible first | exact HB.out | apply below_alloc | apply pw_below_drewN | apply below_drew1) | exact HB.out)) hb); clear HB; have HB := n0_; clear n0_; (try clear hb); (try clear hb2); (try clear hk); (try clear hi)) | ((with_reducible refine gate_dst (N := 11) rfl ?_); refine Kd.S_make (Kd.slice 3 (Kd.int .i64)) _ 22 rfl (N := 11) rfl 28 _ _ rfl t121 rfl rfl Try.underlying28 (.slice none 0 0) 24 info22 rfl (by decide) (by omega) [] (ok := fun _ => True) (okp := fun _ => True) ⟨_, rfl, Kd.R_nil _ _ _ _ _⟩ (fun _ hk => hk) trivial (of_decide_eq_true (by first | (with_reducible assumption) | assumption)) (Nat.le_trans (Nat.mul_le_mul_right _ (of_decide_eq_true (by first | (with_reducible assumption) | assumption) : t121.toNat ≤ 11728124029610)) (by omega)) (Below.refl _ _) (Nat.le_refl _) ?_; intro v123 w8 ho9 hb hg_ hnew_; clear hg_ hnew_; (first | rw [← Ny122.out] at ho9 | (simp only [Int.reduceToNat] at ho9; rw [← Ny122.out] at ho9)); have n0_ := Aside0.mk (Kd.S_lower ho9 (below_size (by repeat (first | (with_reducible first | exact HB.out | apply below_alloc | apply pw_below_drewN | apply below_drew1) | exact HB.out)))); have n1_ := Aside0.mk (below_step (by repeat (first | (with_reducible first | exact HB.out | apply below_alloc | apply pw_below_drewN | apply below_drew1) | exact HB.out)) hb); clear HB; have HO124 := n0_; have HB := n1_; clear n0_ n1_; clear hb ho9))
        go_loopg [14] k (fun kq v14 w' => ∃ (x3_1 : List (List Int)) (x14_1 : Int), v14 = .int .i64 x14_1 ∧ Aside0 (partition_Classes.l0 kq x3_1 l0 (l0.length : Int) x14_1 = some r) ∧ Aside0 (kq ≤ k) ∧ Aside0 (Kd.S (Kd.slice 3 (Kd.int .i64)) 22 w' w.heap.size (fun _ => True) v123 x3_1) ∧ Aside0 (Below w.heap.size w w'))
        case atStart => exact ⟨(y122), (0), (by first | rfl | (simp; done) | (simp [*]; done)), H', ⟨Nat.le_refl _⟩, ⟨by (with_reducible repeat (first | apply Kd.S_alloc | apply Kd.S_drewN | apply Kd.S_drew)); exact HO124.out⟩, ⟨by repeat (first | (with_reducible first | exact HB.out | apply below_alloc | apply pw_below_drewN | apply below_drew1) | exact HB.out)⟩⟩
        case round =>
          clear H'
          try clear c1
          try clear c2
          try clear p2
          try clear c3
          try clear c5
          try clear c5b0
          try clear c5b1
          try clear c6
          try clear c6b0
          try clear c6b1
          obtain ⟨x3_1, x14_1, rfl, HA, HK1, HO_3, HB⟩ := hrel
          cases gk with
          | zero => exact absurd HA.out (by simp [partition_Classes.l0])
          | succ k1 =>
            have H := HA.out
            clear HA
            simp only [partition_Classes.l0] at H
            by_cases c10 : x14_1 < (l0.length : Int)
            · rw [if_pos c10] at H
              have c10b0 : decide (x14_1 < (l0.length : Int)) = true := decide_eq_true c10
              clear c10
              by_cases c11 : 0 ≤ x14_1
              · rw [if_pos c11] at H
                have c11b0 : decide (0 ≤ x14_1) = true := decide_eq_true c11
                clear c11
                by_cases c12 : x14_1 < (l0.length : Int)
                · rw [if_pos c12] at H
                  have c12b0 : decide (x14_1 < (l0.length : Int)) = true := decide_eq_true c12
                  clear c12
                  by_cases c13 : 0 ≤ (rd l0 x14_1)
                  · rw [if_pos c13] at H
                    have c13b0 : decide (0 ≤ (rd l0 x14_1)) = true := decide_eq_true c13
                    clear c13
                    by_cases c14 : (rd l0 x14_1) < (x3_1.length : Int)
                    · rw [if_pos c14] at H
                      have c14b0 : decide ((rd l0 x14_1) < (x3_1.length : Int)) = true := decide_eq_true c14
                      clear c14
                      by_cases c15 : (rd_L1 x3_1 (rd l0 x14_1)).length < 17592186044416
                      · rw [if_pos c15] at H
                        have LMc15 := Aside0.mk c15
                        clear c15
                        obtain ⟨y127, hy127⟩ : ∃ y_ : List Int, y_ = ((rd_L1 x3_1 (rd l0 x14_1)) ++ [x14_1]) := ⟨_, rfl⟩
                        replace H : (partition_Classes.l0 k1 (x3_1.set ((rd l0 x14_1) : Int).toNat y127) l0 (l0.length : Int) (wrap64 (x14_1 + 1))) = some r := by first | (rw [hy127]; with_reducible exact H) | (have H2_ := (Option.bind_some _ _).symm.trans H; rw [hy127]; with_reducible exact H2_) | (have H2_ := (Option.bind_some _ _).symm.trans H; with_reducible exact H2_) | with_reducible exact H | (rw [hy127]; exact H) | exact H
                        have Ny127 := Aside0.mk hy127
                        clear hy127
                        obtain ⟨y130, hy130⟩ : ∃ y_ : List (List Int), y_ = (x3_1.set ((rd l0 x14_1) : Int).toNat y127) := ⟨_, rfl⟩
                        replace H : (partition_Classes.l0 k1 y130 l0 (l0.length : Int) (wrap64 (x14_1 + 1))) = some r := by first | (rw [hy130]; with_reducible exact H) | (have H2_ := (Option.bind_some _ _).symm.trans H; rw [hy130]; with_reducible exact H2_) | (have H2_ := (Option.bind_some _ _).symm.trans H; with_reducible exact H2_) | with_reducible exact H | (rw [hy130]; exact H) | exact H
                        have Ny130 := Aside0.mk hy130
                        clear hy130
                        have H' := Aside0.mk H
                        clear H
                        have p125 : 0 ≤ (x14_1 : Int) := of_decide_eq_true (by first | (with_reducible assumption) | assumption)
                        have q125 : x14_1 < (l0.length : Int) := of_decide_eq_true (by first | (with_reducible assumption) | assumption)
                        obtain ⟨ad125, e125, hx125_0⟩ := Kd.at_int HR0.out x14_1 p125 q125
                        cases e125
                        (try replace hx125_0 := (HB.out.cell (World.block_lt_of_cell? w _ hx125_0)).trans hx125_0)
                        replace p125 := eq_true p125
                        replace q125 := eq_true q125
                        obtain ⟨Ao17, co17, eo17⟩ := Kd.S_slice HO_3.out
                        subst eo17
                        have p126 : 0 ≤ ((rd l0 x14_1) : Int) := of_decide_eq_true (by first | (with_reducible assumption) | assumption)
                        have q126 : (rd l0 x14_1) < (x3_1.length : Int) := of_decide_eq_true (by first | (with_reducible assumption) | assumption)
                        obtain ⟨ad126, A126_0, c126_0, e126, hx126_0, hl126_0, hi126_0⟩ := at_L1 (Kd.S_reads' HO_3.out).2.2 (rd l0 x14_1) p126 q126
                        cases e126
                        obtain ⟨ce126, hce126, hMe126, hcc126⟩ := Kd.S_get HO_3.out [] (rd l0 x14_1) p126 (by first | exact q126 | exact of_decide_eq_true (by first | (with_reducible assumption) | assumption) | (have e_ := (Kd.S_reads' HO_3.out).1; omega))
                        obtain ⟨ve126_0, rfl, ge126_0⟩ := hMe126
                        have hv126_0 := hcc126 0 _ rfl
                        rw [Nat.add_zero, show ((Kd.slice 3 (Kd.int .i64))).sz = 1 from rfl, Nat.mul_one] at hv126_0
                        replace hv126_0 := Option.some.inj (hv126_0.symm.trans hx126_0)
                        rw [hv126_0] at ge126_0
                        have HL126_0 := Aside0.mk (show Kd.R (Kd.int .i64) 3 _ _ _ _ (rd_L1 x3_1 (rd l0 x14_1)) from ge126_0)
                        clear hv126_0 ge126_0
                        have HX126_0 := Aside0.mk hx126_0
                        clear hcc126 hce126
                        have HR126_0 := Aside0.mk hi126_0
                        have HC126_0 := Aside0.mk hl126_0
                        clear hi126_0 hl126_0
                        replace p126 := eq_true p126
                        replace q126 := eq_true q126
                        obtain ⟨go18, co18, eo18, gb18, gl18, cl18, HG18⟩ := Kd.S_form HO_3.out (by have h_ : ((rd l0 x14_1) : Int) < ((x3_1.length : Int) : Int) := of_decide_eq_true (by first | (with_reducible assumption) | assumption); have h2_ : 0 ≤ ((rd l0 x14_1) : Int) := (of_decide_eq_true (by first | (with_reducible assumption) | assumption)); first | omega | (have e_ := (Kd.S_reads' HO_3.out).1; omega))
                        (first | cases eo18 | (injection eo18 with ea_ en_ ec_; (first | subst ea_ | (injection ea_ with ea_; subst ea_)); subst ec_; clear en_))
                        have GB18 := Aside0.mk gb18
                        have GG18 := Aside0.mk HG18
                        clear gb18 gl18 HG18
                        (first | simp only [add_plain] at hx126_0 | skip)
                        obtain ⟨oki18, ce18, hcl18, hM18, hcc18, _, _, hH18⟩ := Kd.S_elem HO_3.out [] ((rd l0 x14_1) : Int) (of_decide_eq_true (by first | (with_reducible assumption) | assumption)) (by have h_ : ((rd l0 x14_1) : Int) < ((x3_1.length : Int) : Int) := of_decide_eq_true (by first | (with_reducible assumption) | assumption); first | exact h_ | (have e_ := (Kd.S_reads' HO_3.out).1; omega) | simpa using h_)
                        obtain ⟨ve18_0, rfl, ge18_0⟩ := hM18
                        have hv18 := hcc18 0 _ rfl
                        have hX18 := HX126_0.out
                        (try simp only [add_plain] at hX18)
                        (try simp only [Nat.add_zero] at hv18)
                        (try rw [show ((Kd.slice 3 (Kd.int .i64))).sz = 1 from rfl, Nat.mul_one] at hv18)
                        replace hv18 := Option.some.inj (hv18.symm.trans hX18)
                        subst hv18
                        clear hX18 hcc18 hcl18
                        have UU18 := Aside0.mk (show Kd.R (Kd.int .i64) 3 _ w.heap.size oki18 (.slice A126_0 (rd_L1 x3_1 (rd l0 x14_1)).length c126_0) (rd_L1 x3_1 (rd l0 x14_1)) from ge18_0)
                        have HH18 := Aside0.mk hH18
                        have HN18 := Aside0.mk (Kd.S_reads' HO_3.out).1
                        clear hH18 ge18_0
                        go_wp2_with (first | ((with_reducible refine gate_builtin (b := .append) (xs := #[.tmp 24, .tmp 26]) rfl ?_); at_builtin; refine Kd.R_append (Kd.int .i64) (w0 := w) w.heap.size rfl (.tmp 24) (.tmp 26) 22 3 (.int .i64 0) 8 rfl Try.underlying22 info3 rfl (by decide) (by omega) (.slice A126_0 (rd_L1 x3_1 (rd l0 x14_1)).length c126_0) (rd_L1 x3_1 (rd l0 x14_1)) x14_1 [.int .i64 x14_1] (fun k_ => oki18 k_ ∨ ((fun _ => True)) k_ ∧ wr.heap.size ≤ k_) (fun _ => False) rfl rfl ?aP (fun _ hk => hk.elim) ?aF ?aO ?aB ?aS ?aL ?_; (case aP => exact rfl); (case aB => exact (by repeat (first | (with_reducible first | exact HB.out | apply below_alloc | apply pw_below_drewN | apply below_drew1) | exact HB.out))); (case aF => exact (fun k_ hk => .inr ⟨trivial, hk⟩)); (case aO => exact (by (with_reducible repeat (first | apply Kd.R_alloc | apply Kd.R_drewN | apply Kd.R_drew)); exact Kd.R_mono UU18.out (fun _ hk => .inl hk))); (case aS => exact (below_size (by repeat (first | (with_reducible first | exact HB.out | apply below_alloc | apply pw_below_drewN | apply below_drew1) | exact HB.out)))); (case aL => have := LMc15.out; omega); intro v128 w19 ho hb hg hat; rw [← Ny127.out] at ho; have n0_ := Aside0.mk (hb); have n1_ := Aside0.mk (Kd.H_grown (Kd.H_widen (by repeat (first | exact HH18.out | refine Kd.H_alloc ?_ _ | refine Kd.H_drewN ?_ _ | refine Kd.H_drew ?_))) hg (fun k_ e_ => .inl (UU18.out.1 k_ e_))); have n2_ := Aside0.mk (ho); clear HB; clear HH18; clear HO_3; clear UU18; clear HL126_0; have HB := n0_; have HH18 := n1_; have HO129 := n2_; clear n0_ n1_ n2_; clear ho hb hg hat; have p16 : 0 ≤ ((rd l0 x14_1) : Int) := of_decide_eq_true (by first | (with_reducible assumption) | assumption); have q16 : ((rd l0 x14_1) : Int) < ((x3_1.length : Int) : Int) := of_decide_eq_true (by first | (with_reducible assumption) | assumption); replace p16 := eq_true p16; replace q16 := eq_true q16; obtain ⟨Ao22, co22, eo22⟩ := Kd.R_slice HO129.out; subst eo22; obtain ⟨_, _, hraw20, _, _, hcc20, _⟩ := Kd.H_raw HH18.out (of_decide_eq_true (by first | (with_reducible assumption) | assumption)) (by have h_ : ((rd l0 x14_1) : Int) < ((x3_1.length : Int) : Int) := of_decide_eq_true (by first | (with_reducible assumption) | assumption); first | exact h_ | (have e_ := (HN18.out); omega) | simpa using h_); obtain ⟨_, hfr20⟩ := Kd.H_at HH18.out (of_decide_eq_true (by first | (with_reducible assumption) | assumption)) (by have h_ : ((rd l0 x14_1) : Int) < ((x3_1.length : Int) : Int) := of_decide_eq_true (by first | (with_reducible assumption) | assumption); first | exact h_ | (have e_ := (HN18.out); omega) | simpa using h_); have hx20_0 := hcc20 0 _ rfl; have hf20_0 := hfr20 0; (try simp only [Nat.add_zero] at hx20_0 hf20_0); (try rw [show ((Kd.slice 3 (Kd.int .i64))).sz = 1 from rfl, Nat.mul_one] at hx20_0); (try rw [show ((Kd.slice 3 (Kd.int .i64))).sz = 1 from rfl, Nat.mul_one] at hf20_0); have HP20 := Kd.S_seg0 HH18.out (of_decide_eq_true (by first | (with_reducible assumption) | assumption)) (by have h_ : ((rd l0 x14_1) : Int) < ((x3_1.length : Int) : Int) := of_decide_eq_true (by first | (with_reducible assumption) | assumption); first | exact h_ | (have e_ := (HN18.out); omega) | simpa using h_) (seg := [.slice Ao22 y127.length co22]) (j := 0) (show 1 ≤ 1 from by decide) (x' := y127) (Kd.M_row HO129.out) (fun _ hk => hk); (try simp only [show ((Kd.slice 3 (Kd.int .i64))).sz = 1 from rfl, Nat.mul_one, Nat.add_zero] at HP20); clear hcc20 hfr20) | ((with_reducible refine gate_store (t := 22) (p := 28) rfl ?_); refine store_event (t := 22) (p := 28) (v := ?vo_w21) (w1 := (w19.setCell ⟨go18, ((rd l0 x14_1) : Int).toNat, none⟩ (.slice Ao22 y127.length co22))) ?hg ?ho ?hn ?hr ?_; (case ho => rfl); (case hg => rfl); (case hn => rfl); (case hr => first | (go_simp; done) | (go_simp; rfl)); intro w21 hw; have hg : w19.grownBy w21 (some go18) := (by rw [hw]; exact HP20.2); have hp_ : Kd.S (Kd.slice 3 (Kd.int .i64)) 22 w21 w.heap.size (fun _ => True) (.slice (some ⟨go18, 0, none⟩) x3_1.length co17) y130 := (by rw [hw, Ny130.out]; exact HP20.1); clear HP20; have n0_ := Aside0.mk ((by rw [hw]; exact below_set HB.out GB18.out : Below w.heap.size w w21)); have n1_ := Aside0.mk (hp_); clear HB; clear HO129; clear HH18; have HB := n0_; have HO_3 := n1_; clear n0_ n1_; clear hg hw hp_ hraw20))
                        go_roundg k1
                        case measure => have := HK1.out; omega
                        case rel => exact ⟨(y130), (wrap64 (x14_1 + 1)), (by first | rfl | (simp; done) | (simp [*]; done)), H', ⟨by have := HK1.out; omega⟩, ⟨by (with_reducible repeat (first | apply Kd.S_alloc | apply Kd.S_drewN | apply Kd.S_drew)); exact HO_3.out⟩, ⟨by repeat (first | (with_reducible first | exact HB.out | apply below_alloc | apply pw_below_drewN | apply below_drew1) | exact HB.out)⟩⟩
                      · rw [if_neg c15] at H
                        exact absurd H (by simp)
                    · rw [if_neg c14] at H
                      exact absurd H (by simp)
                  · rw [if_neg c13] at H
                    exact absurd H (by simp)
                · rw [if_neg c12] at H
                  exact absurd H (by simp)
              · rw [if_neg c11] at H
                exact absurd H (by simp)
            · rw [if_neg c10] at H
              have c10b0 : decide (x14_1 < (l0.length : Int)) = false := decide_eq_false c10
              clear c10
              obtain rfl := Option.some.inj H
              go_wp2
              go_ret
              exact ⟨_, by first | rfl | (simp [errW_none, errW_some] <;> rfl) | (simp [*, errW_none, errW_some] <;> rfl), by (with_reducible repeat (first | apply Kd.S_alloc | apply Kd.S_drewN | apply Kd.S_drew)); exact HO_3.out, by repeat (first | (with_reducible first | exact HB.out | apply below_alloc | apply pw_below_drewN | apply below_drew1) | exact HB.out)⟩
      · rw [if_neg c6] at H
        exact absurd H (by simp)
    · rw [if_neg c5] at H
      exact absurd H (by simp)
  · replace c3 := Bool.eq_false_iff.mpr c3
    subst c3
    have H1 : (some ([] : List (List Int))) = some r := by rw [if_neg (show ¬ (false = true) by decide)] at H; exact H
    clear H
    have H := H1
    clear H1
    obtain rfl := Option.some.inj H
    go_enter Try.func22, Try.ntmps22
    go_wp2_with (first | ((with_reducible refine gate_callee (f := 18) rfl ?_); refine goesL_ (some 7) rfl rfl Try.func18 (by kernel_rfl) rfl #[.slice A0 l0.length c0] rfl (by (try simp only [List.map_toArray, List.map_cons, List.map_nil]); first | done | rfl | (simp only [List.length_drop, List.length_take]; rfl)) ?_; (with_reducible refine (partition_Valid.calls k _ _ l0 false _ ?side1 ?side2 A2.out).mono ?_); (case side1 => repeat (first | exact HR0.out | (with_reducible refine Kd.C_alloc ?_ _) | (with_reducible refine Kd.C_drewN ?_ _) | (with_reducible refine Kd.C_drew ?_))); (case side2 => exact HC0.out); rintro e w' ⟨rfl, ⟨nd, rfl⟩⟩; refine ⟨_, rfl, ?_⟩))
    go_ret
    exact ⟨_, by first | rfl | (simp [errW_none, errW_some] <;> rfl) | (simp [*, errW_none, errW_some] <;> rfl), by first | exact Kd.S_nil _ _ _ _ _ | exact Kd.N_nil _ _ _ _ _ | exact Kd.V_nil _ _ _ _ _ | exact Kd.Q_nil _ _ _ _ _ | exact Kd.R_nil _ _ _ _ _, by repeat (first | (with_reducible first | exact HB.out | apply below_alloc | apply pw_below_drewN | apply below_drew1) | exact HB.out)⟩

/-! ### partition_newForest: function 43 -/
def partition_newForest.l0 : Nat → List Int → Int → Int → Option (List Int)
  | 0, _, _, _ => none
  | k + 1, x3, x8, x9 => if x9 < x8 then (if 0 ≤ x9 then (if x9 < (x3.length : Int) then (partition_newForest.l0 k (x3.set (x9 : Int).toNat x9) x8 (wrap64 (x9 + 1))) else (none)) else (none)) else (some x3)
def partition_newForest.f (k : Nat) (a0 : Int) : Option (List Int) := if 0 ≤ a0 then (if (a0 : Int).toNat ≤ 35184372088832 then ((some (List.replicate (a0 : Int).toNat 0 : List Int)).bind fun y131 => (partition_newForest.l0 k y131 (y131.length : Int) 0)) else (none)) else (none)
theorem partition_newForest.mono_l : ∀ k, (∀ y0 y1 y2, LeO (partition_newForest.l0 k y0 y1 y2) (partition_newForest.l0 (k + 1) y0 y1 y2))
  | 0 => fun _ _ _ r h => by simp [partition_newForest.l0] at h
  | k + 1 => by
    have ih0 := partition_newForest.mono_l k
    · intro y0 y1 y2
      unfold partition_newForest.l0
      repeat' first
      | (with_reducible exact ih0 _ _ _)
      | (with_reducible exact LeO.refl _)
      | (with_reducible exact LeO.none _)
      | (with_reducible refine LeO.ite ?_ ?_)
      | (with_reducible refine LeO.bind ?_ (fun _ => ?_))
      | exact ih0 _ _ _
      | exact LeO.none _
      | refine LeO.ite ?_ ?_
      | refine LeO.bind ?_ (fun _ => ?_)
theorem partition_newForest.mono : ∀ a0 k, LeO (partition_newForest.f k a0) (partition_newForest.f (k + 1) a0) := by
  intro a0 k
  have ih0 := partition_newForest.mono_l k
  unfold partition_newForest.f
  repeat' first
      | (with_reducible exact ih0 _ _ _)
      | (with_reducible exact LeO.refl _)
      | (with_reducible exact LeO.none _)
      | (with_reducible refine LeO.ite ?_ ?_)
      | (with_reducible refine LeO.bind ?_ (fun _ => ?_))
      | exact ih0 _ _ _
      | exact LeO.none _
      | refine LeO.ite ?_ ?_
      | refine LeO.bind ?_ (fun _ => ?_)
set_option maxHeartbeats 8000000 in
set_option maxRecDepth 100000 in
theorem partition_newForest.calls (k : Nat) (a0 : Int) (r : List Int) (w : World) (h : partition_newForest.f k a0 = some r) :
    Calls Try.prog 43 #[.int .i64 a0] w fun e w' => ∃ v0_ : Value, e = .returned (v0_) ∧ Kd.R (Kd.int .i64) 3 w' w.heap.size (fun _ => True) v0_ r ∧ Below w.heap.size w w' := by
  have HB := Aside0.mk (Below.refl w.heap.size w)
  have H : (if 0 ≤ a0 then (if (a0 : Int).toNat ≤ 35184372088832 then ((some (List.replicate (a0 : Int).toNat 0 : List Int)).bind fun y131 => (partition_newForest.l0 k y131 (y131.length : Int) 0)) else (none)) else (none)) = some r := h
  clear h
  by_cases c2 : 0 ≤ a0
  · rw [if_pos c2] at H
    have c2b0 := eq_true c2
    have c2b1 : decide (0 ≤ a0) = true := decide_eq_true c2
    clear c2
    by_cases c3 : (a0 : Int).toNat ≤ 35184372088832
    · rw [if_pos c3] at H
      have c3b0 := eq_true c3
      have c3b1 : decide ((a0 : Int).toNat ≤ 35184372088832) = true := decide_eq_true c3
      clear c3
      obtain ⟨y131, hy131⟩ : ∃ y_ : List Int, y_ = (List.replicate (a0 : Int).toNat 0) := ⟨_, rfl⟩
      replace H : (partition_newForest.l0 k y131 (y131.length : Int) 0) = some r := by first | (rw [hy131]; with_reducible exact H) | (have H2_ := (Option.bind_some _ _).symm.trans H; rw [hy131]; with_reducible exact H2_) | (have H2_ := (Option.bind_some _ _).symm.trans H; with_reducible exact H2_) | with_reducible exact H | (rw [hy131]; exact H) | exact H
      have Ny131 := Aside0.mk hy131
      clear hy131
      have H' := Aside0.mk H
      clear H
      go_enter Try.func43, Try.ntmps43
      go_wp2_with (first | ((with_reducible refine gate_dst (N := 6) rfl ?_); refine Kd.R_make (Kd.int .i64) _ 3 rfl (N := 6) rfl 46 _ _ rfl a0 rfl rfl Try.underlying46 (.int .i64 0) 8 info3 rfl (by decide) (by omega) 0 (ok := fun _ => True) (okp := fun _ => True) rfl (fun _ hk => hk) trivial (of_decide_eq_true (by first | (with_reducible assumption) | assumption)) (Nat.le_trans (Nat.mul_le_mul_right _ (of_decide_eq_true (by first | (with_reducible assumption) | assumption) : a0.toNat ≤ 35184372088832)) (by omega)) (Below.refl _ _) (Nat.le_refl _) ?_; intro v132 w4 ho5 hb hg_ hnew_; clear hg_ hnew_; (first | rw [← Ny131.out] at ho5 | (simp only [Int.reduceToNat] at ho5; rw [← Ny131.out] at ho5)); have n0_ := Aside0.mk (Kd.R_lower ho5 (below_size (by repeat (first | (with_reducible first | exact HB.out | apply below_alloc | apply pw_below_drewN | apply below_drew1) | exact HB.out)))); have n1_ := Aside0.mk (below_step (by repeat (first | (with_reducible first | exact HB.out | apply below_alloc | apply pw_below_drewN | apply below_drew1) | exact HB.out)) hb); clear HB; have HO133 := n0_; have HB := n1_; clear n0_ n1_; clear hb ho5; obtain ⟨Ao6, co6, eo6⟩ := Kd.R_slice HO133.out; subst eo6))
      go_loopg [9] k (fun kq v9 w' => ∃ (x3_1 : List Int) (x9_1 : Int), v9 = .int .i64 x9_1 ∧ Aside0 (partition_newForest.l0 kq x3_1 (y131.length : Int) x9_1 = some r) ∧ Aside0 (kq ≤ k) ∧ Aside0 (Kd.R (Kd.int .i64) 3 w' w.heap.size (fun _ => True) (.slice Ao6 y131.length co6) x3_1) ∧ Aside0 (Below w.heap.size w w'))
      case atStart => exact ⟨(y131), (0), (by first | rfl | (simp; done) | (simp [*]; done)), H', ⟨Nat.le_refl _⟩, ⟨by (with_reducible repeat (first | apply Kd.R_alloc | apply Kd.R_drewN | apply Kd.R_drew)); exact HO133.out⟩, ⟨by repeat (first | (with_reducible first | exact HB.out | apply below_alloc | apply pw_below_drewN | apply below_drew1) | exact HB.out)⟩⟩
      case round =>
        clear H'
        try clear c2
        try clear c2b0
        try clear c2b1
        try clear p2
        try clear c3
        try clear c3b0
        try clear c3b1
        try clear c4
        obtain ⟨x3_1, x9_1, rfl, HA, HK1, HO_3, HB⟩ := hrel
        have hl3_1 := (Kd.R_reads' HO_3.out).1
        rw [hl3_1] at HO_3
        (try simp only [hl3_1])
        cases gk with
        | zero => exact absurd HA.out (by simp [partition_newForest.l0])
        | succ k1 =>
          have H := HA.out
          clear HA
          simp only [partition_newForest.l0] at H
          by_cases c7 : x9_1 < (y131.length : Int)
          · rw [if_pos c7] at H
            have c7b0 : decide (x9_1 < (y131.length : Int)) = true := decide_eq_true c7
            (try (have c7b0_hl3_1 := c7b0; simp only [hl3_1] at c7b0_hl3_1))
            clear c7
            by_cases c8 : 0 ≤ x9_1
            · rw [if_pos c8] at H
              have c8b0 : decide (0 ≤ x9_1) = true := decide_eq_true c8
              clear c8
              by_cases c9 : x9_1 < (x3_1.length : Int)
              · rw [if_pos c9] at H
                have c9b0 : decide (x9_1 < (x3_1.length : Int)) = true := decide_eq_true c9
                (try (have c9b0_hl3_1 := c9b0; simp only [hl3_1] at c9b0_hl3_1))
                clear c9
                obtain ⟨y134, hy134⟩ : ∃ y_ : List Int, y_ = (x3_1.set (x9_1 : Int).toNat x9_1) := ⟨_, rfl⟩
                replace H : (partition_newForest.l0 k1 y134 (y131.length : Int) (wrap64 (x9_1 + 1))) = some r := by first | (rw [hy134]; with_reducible exact H) | (have H2_ := (Option.bind_some _ _).symm.trans H; rw [hy134]; with_reducible exact H2_) | (have H2_ := (Option.bind_some _ _).symm.trans H; with_reducible exact H2_) | with_reducible exact H | (rw [hy134]; exact H) | exact H
                have Ny134 := Aside0.mk hy134
                clear hy134
                have H' := Aside0.mk H
                clear H
                have p10 : 0 ≤ (x9_1 : Int) := of_decide_eq_true (by first | (with_reducible assumption) | assumption)
                have q10 : (x9_1 : Int) < ((x3_1.length : Int) : Int) := of_decide_eq_true (by first | (with_reducible assumption) | assumption)
                obtain ⟨go10, co10, eo10, gb10, gl10, cl10, HG10⟩ := Kd.R_form HO_3.out (by first | omega | (have e_ := (Kd.R_reads' HO_3.out).1; omega))
                (first | cases eo10 | (injection eo10 with ea_ en_ ec_; (first | subst ea_ | (injection ea_ with ea_; subst ea_)); subst ec_; clear en_))
                have GB10 := Aside0.mk gb10
                have GG10 := Aside0.mk HG10
                clear gb10 gl10 HG10
                obtain ⟨hx10_0, hf10_0⟩ := Kd.R_celln 0 HO_3.out (x9_1 : Int) p10 q10
                replace p10 := eq_true p10
                replace q10 := eq_true q10
                have HP11 := Kd.R_putg HO_3.out (x9_1 : Int) x9_1
                go_wp2_with (first | ((with_reducible refine gate_store (t := 3) (p := 15) rfl ?_); refine store_event (t := 3) (p := 15) (v := ?vo_w12) (w1 := (wr.setCell ⟨go10, (x9_1 : Int).toNat, none⟩ (.int .i64 x9_1))) ?hg ?ho ?hn ?hr ?_; (case ho => rfl); (case hg => rfl); (case hn => rfl); (case hr => first | (go_simp; done) | (go_simp; rfl)); intro w12 hw; have hg : wr.grownBy w12 (some go10) := (by rw [hw]; exact HP11.2); have hp_ : Kd.R (Kd.int .i64) 3 w12 w.heap.size (fun _ => True) (.slice (some ⟨go10, 0, none⟩) x3_1.length co6) y134 := (by rw [hw, Ny134.out]; exact HP11.1); clear HP11; have n0_ := Aside0.mk (hp_); have n1_ := Aside0.mk ((by rw [hw]; exact below_set (HB.out) GB10.out : Below w.heap.size w w12)); clear HO_3; clear HB; have HO_3 := n0_; have HB := n1_; clear n0_ n1_; clear hg hw hp_))
                (try simp only [← hl3_1])
                go_roundg k1
                case measure => have := HK1.out; omega
                case rel => exact ⟨(y134), (wrap64 (x9_1 + 1)), (by first | rfl | (simp; done) | (simp [*]; done)), H', ⟨by have := HK1.out; omega⟩, ⟨by (try simp only [hl3_1]); (with_reducible repeat (first | apply Kd.R_alloc | apply Kd.R_drewN | apply Kd.R_drew)); exact HO_3.out⟩, ⟨by repeat (first | (with_reducible first | exact HB.out | apply below_alloc | apply pw_below_drewN | apply below_drew1) | exact HB.out)⟩⟩
              · rw [if_neg c9] at H
                exact absurd H (by simp)
            · rw [if_neg c8] at H
              exact absurd H (by simp)
          · rw [if_neg c7] at H
            have c7b0 : decide (x9_1 < (y131.length : Int)) = false := decide_eq_false c7
            (try (have c7b0_hl3_1 := c7b0; simp only [hl3_1] at c7b0_hl3_1))
            clear c7
            obtain rfl := Option.some.inj H
            go_wp2
            go_ret
            exact ⟨_, by first | rfl | (simp [errW_none, errW_some] <;> rfl) | (simp [*, errW_none, errW_some] <;> rfl), (by first | exact (by (with_reducible repeat (first | apply Kd.R_alloc | apply Kd.R_drewN | apply Kd.R_drew)); exact HO_3.out) | (simp only [hl3_1]; exact (by (with_reducible repeat (first | apply Kd.R_alloc | apply Kd.R_drewN | apply Kd.R_drew)); exact HO_3.out))), by repeat (first | (with_reducible first | exact HB.out | apply below_alloc | apply pw_below_drewN | apply below_drew1) | exact HB.out)⟩
    · rw [if_neg c3] at H
      exact absurd H (by simp)
  · rw [if_neg c2] at H
    exact absurd H (by simp)

/-! ### partition_forest_find: function 48 -/
def partition_forest_find.l0 : Nat → List Int → Int → Option (Int × List Int)
  | 0, _, _ => none
  | k + 1, x0, x1 => if 0 ≤ x1 then (if x1 < (x0.length : Int) then (if (rd x0 x1) = x1 then (some (x1, x0)) else (if 0 ≤ (rd x0 x1) then (if (rd x0 x1) < (x0.length : Int) then ((some (x0.set (x1 : Int).toNat (rd x0 (rd x0 x1)) : List Int)).bind fun y138 => (partition_forest_find.l0 k y138 (rd y138 x1))) else (none)) else (none))) else (none)) else (none)
def partition_forest_find.f (k : Nat) (l0 : List Int) (a1 : Int) : Option (Int × List Int) := partition_forest_find.l0 k l0 a1
theorem partition_forest_find.mono_l : ∀ k, (∀ y0 y1, LeO (partition_forest_find.l0 k y0 y1) (partition_forest_find.l0 (k + 1) y0 y1))
  | 0 => fun _ _ r h => by simp [partition_forest_find.l0] at h
  | k + 1 => by
    have ih0 := partition_forest_find.mono_l k
    · intro y0 y1
      unfold partition_forest_find.l0
      repeat' first
      | (with_reducible exact ih0 _ _)
      | (with_reducible exact LeO.refl _)
      | (with_reducible exact LeO.none _)
      | (with_reducible refine LeO.ite ?_ ?_)
      | (with_reducible refine LeO.bind ?_ (fun _ => ?_))
      | exact ih0 _ _
      | exact LeO.none _
      | refine LeO.ite ?_ ?_
      | refine LeO.bind ?_ (fun _ => ?_)
theorem partition_forest_find.mono : ∀ a0 a1 k, LeO (partition_forest_find.f k a0 a1) (partition_forest_find.f (k + 1) a0 a1) := by
  intro a0 a1 k
  have ih0 := partition_forest_find.mono_l k
  unfold partition_forest_find.f
  repeat' first
      | (with_reducible exact ih0 _ _)
      | (with_reducible exact LeO.refl _)
      | (with_reducible exact LeO.none _)
      | (with_reducible refine LeO.ite ?_ ?_)
      | (with_reducible refine LeO.bind ?_ (fun _ => ?_))
      | exact ih0 _ _
      | exact LeO.none _
      | refine LeO.ite ?_ ?_
      | refine LeO.bind ?_ (fun _ => ?_)
set_option maxHeartbeats 8000000 in
set_option maxRecDepth 100000 in
theorem partition_forest_find.calls (k : Nat) (P0_ : Nat → Prop) (u9000_ : Value) (l0 : List Int) (a1 : Int) (r1 : Int) (r2 : List Int) (w0 w : World) (hB : Below w0.heap.size w0 w) (ho0 : Kd.R (Kd.int .i64) 3 w w0.heap.size P0_ u9000_ l0) (h : partition_forest_find.f k l0 a1 = some (r1, r2)) :
    Calls Try.prog 48 #[u9000_, .int .i64 a1] w fun e w' => e = .returned (.int .i64 r1) ∧ Kd.R (Kd.int .i64) 3 w' w0.heap.size (fun k_ => (P0_ k_ ∨ w.heap.size ≤ k_)) u9000_ r2 ∧ Below w0.heap.size w0 w' ∧ Kept w w' (fun k_ => P0_ k_) := by
  have HO0 := Aside0.mk (show Kd.R (Kd.int .i64) 3 w w0.heap.size (fun k_ => (P0_ k_ ∨ w.heap.size ≤ k_)) u9000_ l0 from Kd.R_mono ho0 (fun k_ hk => (.inl hk)))
  have HK := Aside0.mk (Kept.refl w (fun k_ => P0_ k_))
  have HW0 := Aside0.mk hB.size
  have HB := Aside0.mk hB
  clear hB
  have H : (partition_forest_find.l0 k l0 a1) = some (r1, r2) := h
  clear h
  have H' := Aside0.mk H
  clear H
  go_enter Try.func48, Try.ntmps48
  go_wp2
  go_loopg [1] k (fun kq v1 w' => ∃ (x0_1 : List Int) (x1_1 : Int), v1 = .int .i64 x1_1 ∧ Aside0 (partition_forest_find.l0 kq x0_1 x1_1 = some (r1, r2)) ∧ Aside0 (kq ≤ k) ∧ Aside0 (Kd.R (Kd.int .i64) 3 w' w0.heap.size (fun k_ => (P0_ k_ ∨ w.heap.size ≤ k_)) u9000_ x0_1) ∧ Aside0 (Kept w w' (fun k_ => P0_ k_)) ∧ Aside0 (Below w0.heap.size w0 w'))
  case atStart => exact ⟨(l0), (a1), (by first | rfl | (simp; done) | (simp [*]; done)), H', ⟨Nat.le_refl _⟩, ⟨by (with_reducible repeat (first | apply Kd.R_alloc | apply Kd.R_drewN | apply Kd.R_drew)); exact HO0.out⟩, ⟨by repeat (first | (with_reducible first | exact HK.out | apply Kept.alloc | apply Kept.drewN | apply Kept.drew) | exact HK.out)⟩, ⟨by repeat (first | (with_reducible first | exact HB.out | apply below_alloc | apply pw_below_drewN | apply below_drew1) | exact HB.out)⟩⟩
  case round =>
    clear H'
    try clear p2
    obtain ⟨x0_1, x1_1, rfl, HA, HK1, HO_0, HK, HB⟩ := hrel
    cases gk with
    | zero => exact absurd HA.out (by simp [partition_forest_find.l0])
    | succ k1 =>
      have H := HA.out
      clear HA
      simp only [partition_forest_find.l0] at H
      by_cases c3 : 0 ≤ x1_1
      · rw [if_pos c3] at H
        have c3b0 : decide (0 ≤ x1_1) = true := decide_eq_true c3
        clear c3
        by_cases c4 : x1_1 < (x0_1.length : Int)
        · rw [if_pos c4] at H
          have c4b0 : decide (x1_1 < (x0_1.length : Int)) = true := decide_eq_true c4
          clear c4
          by_cases c5 : (rd x0_1 x1_1) = x1_1
          · rw [if_pos c5] at H
            have c5b0 : ((rd x0_1 x1_1) == x1_1) = true := beq_iff_eq.mpr c5
            have c5b1 : ((rd x0_1 x1_1) != x1_1) = false := bne_eq_false_iff_eq.mpr c5
            clear c5
            simp only [Option.some.injEq, Prod.mk.injEq] at H
            obtain ⟨rfl, rfl⟩ := H
            obtain ⟨Ao6, co6, eo6⟩ := Kd.R_slice HO_0.out
            subst eo6
            have p135 : 0 ≤ (x1_1 : Int) := of_decide_eq_true (by first | (with_reducible assumption) | assumption)
            have q135 : x1_1 < (x0_1.length : Int) := of_decide_eq_true (by first | (with_reducible assumption) | assumption)
            obtain ⟨ad135, e135, hx135_0⟩ := Kd.at_int (Kd.R_reads' HO_0.out).2.2 x1_1 p135 q135
            cases e135
            replace p135 := eq_true p135
            replace q135 := eq_true q135
            go_wp2
            go_ret
            exact ⟨by first | rfl | (simp [errW_none, errW_some] <;> rfl) | (simp [*, errW_none, errW_some] <;> rfl), by (with_reducible repeat (first | apply Kd.R_alloc | apply Kd.R_drewN | apply Kd.R_drew)); exact HO_0.out, by repeat (first | (with_reducible first | exact HB.out | apply below_alloc | apply pw_below_drewN | apply below_drew1) | exact HB.out), by repeat (first | (with_reducible first | exact HK.out | apply Kept.alloc | apply Kept.drewN | apply Kept.drew) | exact HK.out)⟩
          · rw [if_neg c5] at H
            have c5b0 : ((rd x0_1 x1_1) == x1_1) = false := beq_eq_false_iff_ne.mpr c5
            have c5b1 : ((rd x0_1 x1_1) != x1_1) = true := bne_iff_ne.mpr c5
            by_cases c7 : 0 ≤ (rd x0_1 x1_1)
            · rw [if_pos c7] at H
              have c7b0 : decide (0 ≤ (rd x0_1 x1_1)) = true := decide_eq_true c7
              clear c7
              by_cases c8 : (rd x0_1 x1_1) < (x0_1.length : Int)
              · rw [if_pos c8] at H
                have c8b0 : decide ((rd x0_1 x1_1) < (x0_1.length : Int)) = true := decide_eq_true c8
                clear c8
                obtain ⟨y138, hy138⟩ : ∃ y_ : List Int, y_ = (x0_1.set (x1_1 : Int).toNat (rd x0_1 (rd x0_1 x1_1))) := ⟨_, rfl⟩
                replace H : (partition_forest_find.l0 k1 y138 (rd y138 x1_1)) = some (r1, r2) := by first | (rw [hy138]; with_reducible exact H) | (have H2_ := (Option.bind_some _ _).symm.trans H; rw [hy138]; with_reducible exact H2_) | (have H2_ := (Option.bind_some _ _).symm.trans H; with_reducible exact H2_) | with_reducible exact H | (rw [hy138]; exact H) | exact H
                have Ny138 := Aside0.mk hy138
                clear hy138
                have H' := Aside0.mk H
                clear H
                obtain ⟨Ao10, co10, eo10⟩ := Kd.R_slice HO_0.out
                subst eo10
                have p135 : 0 ≤ (x1_1 : Int) := of_decide_eq_true (by first | (with_reducible assumption) | assumption)
                have q135 : x1_1 < (x0_1.length : Int) := of_decide_eq_true (by first | (with_reducible assumption) | assumption)
                obtain ⟨ad135, e135, hx135_0⟩ := Kd.at_int (Kd.R_reads' HO_0.out).2.2 x1_1 p135 q135
                cases e135
                replace p135 := eq_true p135
                replace q135 := eq_true q135
                have p136 : 0 ≤ (x1_1 : Int) := of_decide_eq_true (by first | (with_reducible assumption) | assumption)
                have q136 : x1_1 < (x0_1.length : Int) := of_decide_eq_true (by first | (with_reducible assumption) | assumption)
                obtain ⟨ad136, e136, hx136_0⟩ := Kd.at_int (Kd.R_reads' HO_0.out).2.2 x1_1 p136 q136
                obtain rfl : ad135 = ad136 := (by injection e136)
                replace p136 := eq_true p136
                replace q136 := eq_true q136
                have p137 : 0 ≤ ((rd x0_1 x1_1) : Int) := of_decide_eq_true (by first | (with_reducible assumption) | assumption)
                have q137 : (rd x0_1 x1_1) < (x0_1.length : Int) := of_decide_eq_true (by first | (with_reducible assumption) | assumption)
                obtain ⟨ad137, e137, hx137_0⟩ := Kd.at_int (Kd.R_reads' HO_0.out).2.2 (rd x0_1 x1_1) p137 q137
                obtain rfl : ad135 = ad137 := (by injection e137)
                replace p137 := eq_true p137
                replace q137 := eq_true q137
                have p9 : 0 ≤ (x1_1 : Int) := of_decide_eq_true (by first | (with_reducible assumption) | assumption)
                have q9 : (x1_1 : Int) < ((x0_1.length : Int) : Int) := of_decide_eq_true (by first | (with_reducible assumption) | assumption)
                obtain ⟨go9, co9, eo9, gb9, gl9, cl9, HG9⟩ := Kd.R_form HO_0.out (by first | omega | (have e_ := (Kd.R_reads' HO_0.out).1; omega))
                (first | cases eo9 | (injection eo9 with ea_ en_ ec_; (first | subst ea_ | (injection ea_ with ea_; subst ea_)); subst ec_; clear en_))
                have GB9 := Aside0.mk gb9
                have GG9 := Aside0.mk HG9
                clear gb9 gl9 HG9
                have HMgo9 := Aside0.mk (show (P0_ go9 ∨ w.heap.size ≤ go9) from (HO_0.out.1 _ rfl))
                (first | simp only [add_plain] at hx135_0 | skip)
                (first | simp only [add_plain] at hx136_0 | skip)
                (first | simp only [add_plain] at hx137_0 | skip)
                obtain ⟨hx9_0, hf9_0⟩ := Kd.R_celln 0 HO_0.out (x1_1 : Int) p9 q9
                replace p9 := eq_true p9
                replace q9 := eq_true q9
                have HP11 := Kd.R_putg HO_0.out (x1_1 : Int) (rd x0_1 (rd x0_1 x1_1))
                go_wp2_with (first | ((with_reducible refine gate_store (t := 3) (p := 20) rfl ?_); refine store_event (t := 3) (p := 20) (v := ?vo_w12) (w1 := (wr.setCell ⟨go9, (x1_1 : Int).toNat, none⟩ (.int .i64 (rd x0_1 (rd x0_1 x1_1))))) ?hg ?ho ?hn ?hr ?_; (case ho => rfl); (case hg => rfl); (case hn => rfl); (case hr => first | (go_simp; done) | (go_simp; rfl)); intro w12 hw; have hg : wr.grownBy w12 (some go9) := (by rw [hw]; exact HP11.2); have hp_ : Kd.R (Kd.int .i64) 3 w12 w0.heap.size (fun k_ => (P0_ k_ ∨ w.heap.size ≤ k_)) (.slice (some ⟨go9, 0, none⟩) x0_1.length co10) y138 := (by rw [hw, Ny138.out]; exact HP11.1); clear HP11; have n0_ := Aside0.mk (hp_); have n1_ := Aside0.mk ((by rw [hw]; exact below_set (HB.out) GB9.out : Below w0.heap.size w0 w12)); have n2_ := Aside0.mk (Kept.of_grown (S := (fun k_ => P0_ k_)) hg (by repeat (first | (with_reducible first | exact HK.out | apply Kept.alloc | apply Kept.drewN | apply Kept.drew) | exact HK.out)) (fun k_ e_ => (HO_0.out.1 k_ e_))); clear HO_0; clear HB; clear HK; have HO_0 := n0_; have HB := n1_; have HK := n2_; clear n0_ n1_ n2_; clear hg hw hp_; have p139 : 0 ≤ (x1_1 : Int) := of_decide_eq_true (by first | (with_reducible assumption) | assumption); have q139 : x1_1 < (y138.length : Int) := (by have h_ : (x1_1 : Int) < ((x0_1.length : Int) : Int) := of_decide_eq_true (by first | (with_reducible assumption) | assumption); first | (have e_ := (Kd.R_reads' HO_0.out).1; omega) | simpa only [Ny138.out, List.length_set] using h_); have ql139 : ((x1_1 : Int) < ((x0_1.length : Int) : Int)) = True := eq_true (of_decide_eq_true (by first | (with_reducible assumption) | assumption)); obtain ⟨ad139, e139, hx139_0⟩ := Kd.at_int (Kd.R_reads' HO_0.out).2.2 x1_1 p139 q139; obtain rfl : (⟨go9, 0, none⟩ : Addr) = ad139 := (by injection e139); (first | simp only [add_plain] at hx139_0 | simp only [add_at] at hx139_0 | simp only [Addr.add, Nat.zero_add] at hx139_0 | skip); replace p139 := eq_true p139; replace q139 := eq_true q139))
                go_roundg k1
                case measure => have := HK1.out; omega
                case rel => exact ⟨(y138), (rd y138 x1_1), (by first | rfl | (simp; done) | (simp [*]; done)), H', ⟨by have := HK1.out; omega⟩, ⟨by (with_reducible repeat (first | apply Kd.R_alloc | apply Kd.R_drewN | apply Kd.R_drew)); exact HO_0.out⟩, ⟨by repeat (first | (with_reducible first | exact HK.out | apply Kept.alloc | apply Kept.drewN | apply Kept.drew) | exact HK.out)⟩, ⟨by repeat (first | (with_reducible first | exact HB.out | apply below_alloc | apply pw_below_drewN | apply below_drew1) | exact HB.out)⟩⟩
              · rw [if_neg c8] at H
                exact absurd H (by simp)
            · rw [if_neg c7] at H
              exact absurd H (by simp)
        · rw [if_neg c4] at H
          exact absurd H (by simp)
      · rw [if_neg c3] at H
        exact absurd H (by simp)

/-! ### partition_forest_union: function 44 -/
def partition_forest_union.f (k : Nat) (l0 : List Int) (a1 : Int) (a2 : Int) : Option (List Int) := (partition_forest_find.f k l0 a1).bind fun bt140 => ((partition_forest_find.f k bt140.2 a2).bind fun bt142 => (if 0 ≤ bt140.1 then (if bt140.1 < (l0.length : Int) then (some (bt142.2.set (bt140.1 : Int).toNat bt142.1)) else (none)) else (none)))
theorem partition_forest_union.mono : ∀ a0 a1 a2 k, LeO (partition_forest_union.f k a0 a1 a2) (partition_forest_union.f (k + 1) a0 a1 a2) := by
  intro a0 a1 a2 k
  unfold partition_forest_union.f
  repeat' first
      | (with_reducible exact partition_forest_find.mono _ _ _)
      | (with_reducible exact LeO.refl _)
      | (with_reducible exact LeO.none _)
      | (with_reducible refine LeO.ite ?_ ?_)
      | (with_reducible refine LeO.bind ?_ (fun _ => ?_))
      | exact partition_forest_find.mono _ _ _
      | exact LeO.none _
      | refine LeO.ite ?_ ?_
      | refine LeO.bind ?_ (fun _ => ?_)
set_option maxHeartbeats 8000000 in
set_option maxRecDepth 100000 in
theorem partition_forest_union.calls (k : Nat) (P0_ : Nat → Prop) (u9000_ : Value) (l0 : List Int) (a1 : Int) (a2 : Int) (r : List Int) (w0 w : World) (hB : Below w0.heap.size w0 w) (ho0 : Kd.R (Kd.int .i64) 3 w w0.heap.size P0_ u9000_ l0) (h : partition_forest_union.f k l0 a1 a2 = some r) :
    Calls Try.prog 44 #[u9000_, .int .i64 a1, .int .i64 a2] w fun e w' => e = .returned (.tuple #[]) ∧ Kd.R (Kd.int .i64) 3 w' w0.heap.size (fun k_ => (P0_ k_ ∨ w.heap.size ≤ k_)) u9000_ r ∧ Below w0.heap.size w0 w' ∧ Kept w w' (fun k_ => P0_ k_) := by
  have HO0 := Aside0.mk (show Kd.R (Kd.int .i64) 3 w w0.heap.size (fun k_ => (P0_ k_ ∨ w.heap.size ≤ k_)) u9000_ l0 from Kd.R_mono ho0 (fun k_ hk => (.inl hk)))
  have HK := Aside0.mk (Kept.refl w (fun k_ => P0_ k_))
  have HW0 := Aside0.mk hB.size
  have HB := Aside0.mk hB
  clear hB
  have H : ((partition_forest_find.f k l0 a1).bind fun bt140 => ((partition_forest_find.f k bt140.2 a2).bind fun bt142 => (if 0 ≤ bt140.1 then (if bt140.1 < (l0.length : Int) then (some (bt142.2.set (bt140.1 : Int).toNat bt142.1)) else (none)) else (none)))) = some r := h
  clear h
  replace H := Option.bind_eq_some_iff.mp H
  obtain ⟨⟨t140, t141⟩, A40, H⟩ := H
  replace H : ((partition_forest_find.f k t141 a2).bind fun bt142 => (if 0 ≤ t140 then (if t140 < (l0.length : Int) then (some (bt142.2.set (t140 : Int).toNat bt142.1)) else (none)) else (none))) = some r := H
  have A4 := Aside0.mk A40
  clear A40
  replace H := Option.bind_eq_some_iff.mp H
  obtain ⟨⟨t142, t143⟩, A50, H⟩ := H
  replace H : (if 0 ≤ t140 then (if t140 < (l0.length : Int) then (some (t143.set (t140 : Int).toNat t142)) else (none)) else (none)) = some r := H
  have A5 := Aside0.mk A50
  clear A50
  by_cases c6 : 0 ≤ t140
  · rw [if_pos c6] at H
    have c6b0 : decide (0 ≤ t140) = true := decide_eq_true c6
    clear c6
    by_cases c7 : t140 < (l0.length : Int)
    · rw [if_pos c7] at H
      have c7b0 : decide (t140 < (l0.length : Int)) = true := decide_eq_true c7
      clear c7
      obtain ⟨y144, hy144⟩ : ∃ y_ : List Int, y_ = (t143.set (t140 : Int).toNat t142) := ⟨_, rfl⟩
      replace H : (some y144) = some r := by first | (rw [hy144]; with_reducible exact H) | (have H2_ := (Option.bind_some _ _).symm.trans H; rw [hy144]; with_reducible exact H2_) | (have H2_ := (Option.bind_some _ _).symm.trans H; with_reducible exact H2_) | with_reducible exact H | (rw [hy144]; exact H) | exact H
      have Ny144 := Aside0.mk hy144
      clear hy144
      obtain rfl := Option.some.inj H
      obtain ⟨Ao9, co9, eo9⟩ := Kd.R_slice HO0.out
      subst eo9
      go_enter Try.func44, Try.ntmps44
      go_wp2_with (first | ((with_reducible refine gate_callee (f := 48) rfl ?_); refine goesL_ (some 9) rfl rfl Try.func48 (by kernel_rfl) rfl #[.slice Ao9 l0.length co9, .int .i64 a1] rfl (by (try simp only [List.map_toArray, List.map_cons, List.map_nil]); first | done | rfl | (simp only [List.length_drop, List.length_take]; rfl)) ?_; (with_reducible refine (partition_forest_find.calls k (fun k_ => some k_ = (.slice Ao9 l0.length co9 : Value).ownBlock) (.slice Ao9 l0.length co9) l0 a1 t140 t141 w0 _ ?side1 ?side2 A4.out).mono ?_); (case side1 => repeat (first | (with_reducible first | exact HB.out | apply below_alloc | apply pw_below_drewN | apply below_drew1) | exact HB.out)); (case side2 => exact Kd.R_tight rfl HO0.out); rintro e w10 ⟨rfl, hy0, hb, hkp⟩; refine ⟨_, rfl, ?_⟩; have n0_ := Aside0.mk (Kd.R_reok rfl hy0 (fun k_ e_ => HO0.out.1 k_ e_)); have n1_ := Aside0.mk (Kept.then_ (S := (fun k_ => P0_ k_)) (by repeat (first | (with_reducible first | exact HK.out | apply Kept.alloc | apply Kept.drewN | apply Kept.drew) | exact HK.out)) hkp (fun k_ hs_ => (fun e_ => (HO0.out.1 k_ e_.symm)) hs_)); have n2_ := Aside0.mk (hb); clear HO0; clear HK; clear HB; have HO0 := n0_; have HK := n1_; have HB := n2_; clear n0_ n1_ n2_; (try clear hb); (try clear hkp); (try clear hy0)) | ((with_reducible refine gate_callee (f := 48) rfl ?_); refine goesL_ (some 12) rfl rfl Try.func48 (by kernel_rfl) rfl #[.slice Ao9 l0.length co9, .int .i64 a2] rfl (by (try simp only [List.map_toArray, List.map_cons, List.map_nil]); first | done | rfl | (simp only [List.length_drop, List.length_take]; rfl)) ?_; (with_reducible refine (partition_forest_find.calls k (fun k_ => some k_ = (.slice Ao9 l0.length co9 : Value).ownBlock) (.slice Ao9 l0.length co9) t141 a2 t142 t143 w0 _ ?side1 ?side2 A5.out).mono ?_); (case side1 => repeat (first | (with_reducible first | exact HB.out | apply below_alloc | apply pw_below_drewN | apply below_drew1) | exact HB.out)); (case side2 => exact Kd.R_tight rfl HO0.out); rintro e w11 ⟨rfl, hy0, hb, hkp⟩; refine ⟨_, rfl, ?_⟩; have n0_ := Aside0.mk (Kd.R_reok rfl hy0 (fun k_ e_ => HO0.out.1 k_ e_)); have n1_ := Aside0.mk (Kept.then_ (S := (fun k_ => P0_ k_)) (by repeat (first | (with_reducible first | exact HK.out | apply Kept.alloc | apply Kept.drewN | apply Kept.drew) | exact HK.out)) hkp (fun k_ hs_ => (fun e_ => (HO0.out.1 k_ e_.symm)) hs_)); have n2_ := Aside0.mk (hb); clear HO0; clear HK; clear HB; have HO0 := n0_; have HK := n1_; have HB := n2_; clear n0_ n1_ n2_; (try clear hb); (try clear hkp); (try clear hy0); have p8 : 0 ≤ (t140 : Int) := of_decide_eq_true (by first | (with_reducible assumption) | assumption); have q8 : (t140 : Int) < ((l0.length : Int) : Int) := of_decide_eq_true (by first | (with_reducible assumption) | assumption); obtain ⟨go8, co8, eo8, gb8, gl8, cl8, HG8⟩ := Kd.R_form HO0.out (by first | omega | (have e_ := (Kd.R_reads' HO0.out).1; omega)); (first | cases eo8 | (injection eo8 with ea_ en_ ec_; (first | subst ea_ | (injection ea_ with ea_; subst ea_)); subst ec_; clear en_)); have GB8 := Aside0.mk gb8; have GG8 := Aside0.mk HG8; clear gb8 gl8 HG8; have HMgo8 := Aside0.mk (show (P0_ go8 ∨ w.heap.size ≤ go8) from (HO0.out.1 _ rfl)); obtain ⟨hx8_0, hf8_0⟩ := Kd.R_celln 0 HO0.out (t140 : Int) p8 q8; replace p8 := eq_true p8; replace q8 := eq_true q8; obtain ⟨hy12_, hz12_⟩ := Kd.R_celln 0 HO0.out (t140 : Int) (of_decide_eq_true (by first | (with_reducible assumption) | assumption)) (of_decide_eq_true (by first | (with_reducible assumption) | assumption)); have HP12 := Kd.R_putg HO0.out (t140 : Int) t142) | ((with_reducible refine gate_store (t := 3) (p := 13) rfl ?_); refine store_event (t := 3) (p := 13) (v := ?vo_w13) (w1 := (w11.setCell ⟨go8, (t140 : Int).toNat, none⟩ (.int .i64 t142))) ?hg ?ho ?hn ?hr ?_; (case ho => rfl); (case hg => rfl); (case hn => rfl); (case hr => first | (go_simp; done) | (go_simp; rfl)); intro w13 hw; have hg : w11.grownBy w13 (some go8) := (by rw [hw]; exact HP12.2); have hp_ : Kd.R (Kd.int .i64) 3 w13 w0.heap.size (fun k_ => (P0_ k_ ∨ w.heap.size ≤ k_)) (.slice (some ⟨go8, 0, none⟩) l0.length co9) y144 := (by rw [hw, Ny144.out]; exact HP12.1); clear HP12; have n0_ := Aside0.mk (hp_); have n1_ := Aside0.mk ((by rw [hw]; exact below_set (HB.out) GB8.out : Below w0.heap.size w0 w13)); have n2_ := Aside0.mk (Kept.of_grown (S := (fun k_ => P0_ k_)) hg (by repeat (first | (with_reducible first | exact HK.out | apply Kept.alloc | apply Kept.drewN | apply Kept.drew) | exact HK.out)) (fun k_ e_ => (HO0.out.1 k_ e_))); clear HO0; clear HB; clear HK; have HO0 := n0_; have HB := n1_; have HK := n2_; clear n0_ n1_ n2_; clear hg hw hp_))
      first | go_end0 | ((try simp only [Exit.inBlock, Exit.then]); refine bodyPost_ret (results_none rfl _ _ _) rfl ?_)
      exact ⟨by first | rfl | (simp [errW_none, errW_some] <;> rfl) | (simp [*, errW_none, errW_some] <;> rfl), by (with_reducible repeat (first | apply Kd.R_alloc | apply Kd.R_drewN | apply Kd.R_drew)); exact HO0.out, by repeat (first | (with_reducible first | exact HB.out | apply below_alloc | apply pw_below_drewN | apply below_drew1) | exact HB.out), by repeat (first | (with_reducible first | exact HK.out | apply Kept.alloc | apply Kept.drewN | apply Kept.drew) | exact HK.out)⟩
    · rw [if_neg c7] at H
      exact absurd H (by simp)
  · rw [if_neg c6] at H
    exact absurd H (by simp)

/-! ### partition_forest_partition: function 45 -/
def partition_forest_partition.l0 : Nat → List Int → List Int → Int → Int → Option (List Int × List Int)
  | 0, _, _, _, _ => none
  | k + 1, x0, x3, x9, x10 => if x10 < x9 then ((partition_forest_find.f k x0 x10).bind fun bt148 => (if 0 ≤ x10 then (if x10 < (x3.length : Int) then (partition_forest_partition.l0 k bt148.2 (x3.set (x10 : Int).toNat bt148.1) x9 (wrap64 (x10 + 1))) else (none)) else (none))) else ((partition_Canonical.f x3).bind fun t151 => (some (t151, x0)))
def partition_forest_partition.f (k : Nat) (l0 : List Int) : Option (List Int × List Int) := if 0 ≤ (l0.length : Int) then (if ((l0.length : Int) : Int).toNat ≤ 35184372088832 then ((some (List.replicate ((l0.length : Int) : Int).toNat 0 : List Int)).bind fun y145 => (partition_forest_partition.l0 k l0 y145 (y145.length : Int) 0)) else (none)) else (none)
theorem partition_forest_partition.mono_l : ∀ k, (∀ y0 y1 y2 y3, LeO (partition_forest_partition.l0 k y0 y1 y2 y3) (partition_forest_partition.l0 (k + 1) y0 y1 y2 y3))
  | 0 => fun _ _ _ _ r h => by simp [partition_forest_partition.l0] at h
  | k + 1 => by
    have ih0 := partition_forest_partition.mono_l k
    · intro y0 y1 y2 y3
      unfold partition_forest_partition.l0
      repeat' first
      | (with_reducible exact ih0 _ _ _ _)
      | (with_reducible exact partition_forest_find.mono _ _ _)
      | (with_reducible exact LeO.refl _)
      | (with_reducible exact LeO.none _)
      | (with_reducible refine LeO.ite ?_ ?_)
      | (with_reducible refine LeO.bind ?_ (fun _ => ?_))
      | exact ih0 _ _ _ _
      | exact partition_forest_find.mono _ _ _
      | exact LeO.none _
      | refine LeO.ite ?_ ?_
      | refine LeO.bind ?_ (fun _ => ?_)
theorem partition_forest_partition.mono : ∀ a0 k, LeO (partition_forest_partition.f k a0) (partition_forest_partition.f (k + 1) a0) := by
  intro a0 k
  have ih0 := partition_forest_partition.mono_l k
  unfold partition_forest_partition.f
  repeat' first
      | (with_reducible exact ih0 _ _ _ _)
      | (with_reducible exact partition_forest_find.mono _ _ _)
      | (with_reducible exact LeO.refl _)
      | (with_reducible exact LeO.none _)
      | (with_reducible refine LeO.ite ?_ ?_)
      | (with_reducible refine LeO.bind ?_ (fun _ => ?_))
      | exact ih0 _ _ _ _
      | exact partition_forest_find.mono _ _ _
      | exact LeO.none _
      | refine LeO.ite ?_ ?_
      | refine LeO.bind ?_ (fun _ => ?_)
set_option maxHeartbeats 8000000 in
set_option maxRecDepth 100000 in
theorem partition_forest_partition.calls (k : Nat) (P0_ : Nat → Prop) (u9000_ : Value) (l0 : List Int) (r1 : List Int) (r2 : List Int) (w0 w : World) (hB : Below w0.heap.size w0 w) (ho0 : Kd.R (Kd.int .i64) 3 w w0.heap.size P0_ u9000_ l0) (h : partition_forest_partition.f k l0 = some (r1, r2)) :
    Calls Try.prog 45 #[u9000_] w fun e w' => ∃ v0_ : Value, e = .returned (v0_) ∧ Kd.R (Kd.int .i64) 3 w' w0.heap.size (fun k_ => (P0_ k_ ∨ w.heap.size ≤ k_) ∧ some k_ ≠ (u9000_ : Value).ownBlock) v0_ r1 ∧ Kd.R (Kd.int .i64) 3 w' w0.heap.size (fun k_ => (P0_ k_ ∨ w.heap.size ≤ k_)) u9000_ r2 ∧ Below w0.heap.size w0 w' ∧ Kept w w' (fun k_ => P0_ k_) := by
  have HO0 := Aside0.mk (show Kd.R (Kd.int .i64) 3 w w0.heap.size (fun k_ => (P0_ k_ ∨ w.heap.size ≤ k_)) u9000_ l0 from Kd.R_mono ho0 (fun k_ hk => (.inl hk)))
  have HK := Aside0.mk (Kept.refl w (fun k_ => P0_ k_))
  have HW0 := Aside0.mk hB.size
  have HB := Aside0.mk hB
  clear hB
  have H : (if 0 ≤ (l0.length : Int) then (if ((l0.length : Int) : Int).toNat ≤ 35184372088832 then ((some (List.replicate ((l0.length : Int) : Int).toNat 0 : List Int)).bind fun y145 => (partition_forest_partition.l0 k l0 y145 (y145.length : Int) 0)) else (none)) else (none)) = some (r1, r2) := h
  clear h
  by_cases c2 : 0 ≤ (l0.length : Int)
  · rw [if_pos c2] at H
    have c2b0 := eq_true c2
    have c2b1 : decide (0 ≤ (l0.length : Int)) = true := decide_eq_true c2
    clear c2
    by_cases c3 : ((l0.length : Int) : Int).toNat ≤ 35184372088832
    · rw [if_pos c3] at H
      have c3b0 := eq_true c3
      have c3b1 : decide (((l0.length : Int) : Int).toNat ≤ 35184372088832) = true := decide_eq_true c3
      clear c3
      obtain ⟨y145, hy145⟩ : ∃ y_ : List Int, y_ = (List.replicate ((l0.length : Int) : Int).toNat 0) := ⟨_, rfl⟩
      replace H : (partition_forest_partition.l0 k l0 y145 (y145.length : Int) 0) = some (r1, r2) := by first | (rw [hy145]; with_reducible exact H) | (have H2_ := (Option.bind_some _ _).symm.trans H; rw [hy145]; with_reducible exact H2_) | (have H2_ := (Option.bind_some _ _).symm.trans H; with_reducible exact H2_) | with_reducible exact H | (rw [hy145]; exact H) | exact H
      have Ny145 := Aside0.mk hy145
      clear hy145
      have H' := Aside0.mk H
      clear H
      obtain ⟨Ao4, co4, eo4⟩ := Kd.R_slice HO0.out
      subst eo4
      go_enter Try.func45, Try.ntmps45
      go_wp2_with (first | ((with_reducible refine gate_dst (N := 7) rfl ?_); refine Kd.R_make (Kd.int .i64) _ 3 rfl (N := 7) rfl 22 _ _ rfl (l0.length : Int) rfl rfl Try.underlying22 (.int .i64 0) 8 info3 rfl (by decide) (by omega) 0 (ok := fun _ => True) (okp := fun _ => True) rfl (fun _ hk => hk) trivial (of_decide_eq_true (by first | (with_reducible assumption) | assumption)) (Nat.le_trans (Nat.mul_le_mul_right _ (of_decide_eq_true (by first | (with_reducible assumption) | assumption) : (l0.length : Int).toNat ≤ 35184372088832)) (by omega)) (Below.refl _ _) (Nat.le_refl _) ?_; intro v146 w5 ho6 hb hg_ hnew_; clear hg_ hnew_; (first | rw [← Ny145.out] at ho6 | (simp only [Int.reduceToNat] at ho6; rw [← Ny145.out] at ho6)); have n0_ := Aside0.mk (Kd.R_elder' (by (with_reducible repeat (first | apply Kd.R_alloc | apply Kd.R_drewN | apply Kd.R_drew)); exact HO0.out) (Kd.R_base ho6) hb); have n1_ := Aside0.mk (Kd.R_lower (Kd.R_new' (Kd.R_newM (M := fun k_ => (P0_ k_ ∨ w.heap.size ≤ k_)) ho6 (by first | exact HK.out.1 | exact (show Kept w _ (fun k_ => P0_ k_) from by repeat (first | (with_reducible first | exact HK.out | apply Kept.alloc | apply Kept.drewN | apply Kept.drew) | exact HK.out)).1) (fun k_ h_ => .inr h_)) (Kd.R_lt (by (with_reducible repeat (first | apply Kd.R_alloc | apply Kd.R_drewN | apply Kd.R_drew)); exact HO0.out))) (below_size (by repeat (first | (with_reducible first | exact HB.out | apply below_alloc | apply pw_below_drewN | apply below_drew1) | exact HB.out)))); have n2_ := Aside0.mk (Kept.below (S := (fun k_ => P0_ k_)) (by repeat (first | (with_reducible first | exact HK.out | apply Kept.alloc | apply Kept.drewN | apply Kept.drew) | exact HK.out)) hb); have n3_ := Aside0.mk (below_step (by repeat (first | (with_reducible first | exact HB.out | apply below_alloc | apply pw_below_drewN | apply below_drew1) | exact HB.out)) hb); clear HO0; clear HK; clear HB; have HO0 := n0_; have HO147 := n1_; have HK := n2_; have HB := n3_; clear n0_ n1_ n2_ n3_; clear hb ho6; obtain ⟨Ao7, co7, eo7⟩ := Kd.R_slice HO147.out; subst eo7))
      go_loopg [10] k (fun kq v10 w' => ∃ (x0_1 : List Int) (x3_1 : List Int) (x10_1 : Int), v10 = .int .i64 x10_1 ∧ Aside0 (partition_forest_partition.l0 kq x0_1 x3_1 (y145.length : Int) x10_1 = some (r1, r2)) ∧ Aside0 (kq ≤ k) ∧ Aside0 (Kd.R (Kd.int .i64) 3 w' w0.heap.size (fun k_ => (P0_ k_ ∨ w.heap.size ≤ k_) ∧ some k_ ≠ ((.slice Ao7 y145.length co7) : Value).ownBlock) (.slice Ao4 l0.length co4) x0_1) ∧ Aside0 (Kd.R (Kd.int .i64) 3 w' w0.heap.size (fun k_ => (P0_ k_ ∨ w.heap.size ≤ k_) ∧ some k_ ≠ ((.slice Ao4 l0.length co4) : Value).ownBlock) (.slice Ao7 y145.length co7) x3_1) ∧ Aside0 (Kept w w' (fun k_ => P0_ k_)) ∧ Aside0 (Below w0.heap.size w0 w'))
      case atStart => exact ⟨(l0), (y145), (0), (by first | rfl | (simp; done) | (simp [*]; done)), H', ⟨Nat.le_refl _⟩, ⟨by (with_reducible repeat (first | apply Kd.R_alloc | apply Kd.R_drewN | apply Kd.R_drew)); exact HO0.out⟩, ⟨by (with_reducible repeat (first | apply Kd.R_alloc | apply Kd.R_drewN | apply Kd.R_drew)); exact Kd.R_mono HO147.out (fun _ hk => ⟨hk.1.1, hk.2⟩)⟩, ⟨by repeat (first | (with_reducible first | exact HK.out | apply Kept.alloc | apply Kept.drewN | apply Kept.drew) | exact HK.out)⟩, ⟨by repeat (first | (with_reducible first | exact HB.out | apply below_alloc | apply pw_below_drewN | apply below_drew1) | exact HB.out)⟩⟩
      case round =>
        clear H'
        try clear c2
        try clear c2b0
        try clear c2b1
        try clear p2
        try clear c3
        try clear c3b0
        try clear c3b1
        try clear c4
        obtain ⟨x0_1, x3_1, x10_1, rfl, HA, HK1, HO_0, HO_3, HK, HB⟩ := hrel
        have hl0_1 := (Kd.R_reads' HO_0.out).1
        rw [hl0_1] at HO_0
        (try simp only [hl0_1])
        (try simp only [hl0_1] at HO_3)
        have hl3_1 := (Kd.R_reads' HO_3.out).1
        rw [hl3_1] at HO_3
        (try simp only [hl3_1])
        (try simp only [hl3_1] at HO_0)
        cases gk with
        | zero => exact absurd HA.out (by simp [partition_forest_partition.l0])
        | succ k1 =>
          have H := HA.out
          clear HA
          simp only [partition_forest_partition.l0] at H
          by_cases c8 : x10_1 < (y145.length : Int)
          · rw [if_pos c8] at H
            have c8b0 : decide (x10_1 < (y145.length : Int)) = true := decide_eq_true c8
            (try (have c8b0_hl0_1 := c8b0; simp only [hl0_1] at c8b0_hl0_1))
            (try (have c8b0_hl3_1 := c8b0; simp only [hl3_1] at c8b0_hl3_1))
            clear c8
            replace H := Option.bind_eq_some_iff.mp H
            obtain ⟨⟨t148, t149⟩, A90, H⟩ := H
            replace H : (if 0 ≤ x10_1 then (if x10_1 < (x3_1.length : Int) then (partition_forest_partition.l0 k1 t149 (x3_1.set (x10_1 : Int).toNat t148) (y145.length : Int) (wrap64 (x10_1 + 1))) else (none)) else (none)) = some (r1, r2) := H
            have A9 := Aside0.mk A90
            clear A90
            by_cases c10 : 0 ≤ x10_1
            · rw [if_pos c10] at H
              have c10b0 : decide (0 ≤ x10_1) = true := decide_eq_true c10
              clear c10
              by_cases c11 : x10_1 < (x3_1.length : Int)
              · rw [if_pos c11] at H
                have c11b0 : decide (x10_1 < (x3_1.length : Int)) = true := decide_eq_true c11
                (try (have c11b0_hl0_1 := c11b0; simp only [hl0_1] at c11b0_hl0_1))
                (try (have c11b0_hl3_1 := c11b0; simp only [hl3_1] at c11b0_hl3_1))
                clear c11
                obtain ⟨y150, hy150⟩ : ∃ y_ : List Int, y_ = (x3_1.set (x10_1 : Int).toNat t148) := ⟨_, rfl⟩
                replace H : (partition_forest_partition.l0 k1 t149 y150 (y145.length : Int) (wrap64 (x10_1 + 1))) = some (r1, r2) := by first | (rw [hy150]; with_reducible exact H) | (have H2_ := (Option.bind_some _ _).symm.trans H; rw [hy150]; with_reducible exact H2_) | (have H2_ := (Option.bind_some _ _).symm.trans H; with_reducible exact H2_) | with_reducible exact H | (rw [hy150]; exact H) | exact H
                have Ny150 := Aside0.mk hy150
                clear hy150
                have H' := Aside0.mk H
                clear H
                go_wp2_with (first | ((with_reducible refine gate_callee (f := 48) rfl ?_); refine goesL_ (some 17) rfl rfl Try.func48 (by kernel_rfl) rfl #[.slice Ao4 x0_1.length co4, .int .i64 x10_1] rfl (by (try simp only [List.map_toArray, List.map_cons, List.map_nil]); first | done | rfl | (simp only [List.length_drop, List.length_take]; rfl)) ?_; (with_reducible refine (partition_forest_find.calls k1 (fun k_ => some k_ = (.slice Ao4 x0_1.length co4 : Value).ownBlock) (.slice Ao4 x0_1.length co4) x0_1 x10_1 t148 t149 w0 _ ?side1 ?side2 A9.out).mono ?_); (case side1 => repeat (first | (with_reducible first | exact HB.out | apply below_alloc | apply pw_below_drewN | apply below_drew1) | exact HB.out)); (case side2 => exact Kd.R_tight rfl HO_0.out); rintro e w13 ⟨rfl, hy0, hb, hkp⟩; refine ⟨_, rfl, ?_⟩; have n0_ := Aside0.mk (Kd.R_reok rfl hy0 (fun k_ e_ => HO_0.out.1 k_ e_)); have n1_ := Aside0.mk (Kd.R_mono (ok' := fun k_ => (P0_ k_ ∨ w.heap.size ≤ k_) ∧ some k_ ≠ (.slice Ao4 x0_1.length co4 : Value).ownBlock) (Kd.R_keptB (HO_3.out) hkp (fun k_ hk_ hs_ => (hk_.2) hs_)) (fun k_ hk_ => ⟨hk_.1.1, hk_.1.2⟩)); have n2_ := Aside0.mk (Kept.then_ (S := (fun k_ => P0_ k_)) (by repeat (first | (with_reducible first | exact HK.out | apply Kept.alloc | apply Kept.drewN | apply Kept.drew) | exact HK.out)) hkp (fun k_ hs_ => (fun e_ => (HO_0.out.1 k_ e_.symm).1) hs_)); have n3_ := Aside0.mk (hb); clear HO_0; clear HO_3; clear HK; clear HB; have HO_0 := n0_; have HO_3 := n1_; have HK := n2_; have HB := n3_; clear n0_ n1_ n2_ n3_; (try clear hb); (try clear hkp); (try clear hy0); have p12 : 0 ≤ (x10_1 : Int) := of_decide_eq_true (by first | (with_reducible assumption) | assumption); have q12 : (x10_1 : Int) < ((x3_1.length : Int) : Int) := of_decide_eq_true (by first | (with_reducible assumption) | assumption); obtain ⟨go12, co12, eo12, gb12, gl12, cl12, HG12⟩ := Kd.R_form HO_3.out (by first | omega | (have e_ := (Kd.R_reads' HO_3.out).1; omega)); (first | cases eo12 | (injection eo12 with ea_ en_ ec_; (first | subst ea_ | (injection ea_ with ea_; subst ea_)); subst ec_; clear en_)); have GB12 := Aside0.mk gb12; have GG12 := Aside0.mk HG12; clear gb12 gl12 HG12; have HMgo12 := Aside0.mk (show (P0_ go12 ∨ w.heap.size ≤ go12) from (HO_3.out.1 _ rfl).1); obtain ⟨hx12_0, hf12_0⟩ := Kd.R_celln 0 HO_3.out (x10_1 : Int) p12 q12; replace p12 := eq_true p12; replace q12 := eq_true q12; obtain ⟨hy14_, hz14_⟩ := Kd.R_celln 0 HO_3.out (x10_1 : Int) (of_decide_eq_true (by first | (with_reducible assumption) | assumption)) (of_decide_eq_true (by first | (with_reducible assumption) | assumption)); have HP14 := Kd.R_putg HO_3.out (x10_1 : Int) t148) | ((with_reducible refine gate_store (t := 3) (p := 18) rfl ?_); refine store_event (t := 3) (p := 18) (v := ?vo_w15) (w1 := (w13.setCell ⟨go12, (x10_1 : Int).toNat, none⟩ (.int .i64 t148))) ?hg ?ho ?hn ?hr ?_; (case ho => rfl); (case hg => rfl); (case hn => rfl); (case hr => first | (go_simp; done) | (go_simp; rfl)); intro w15 hw; have hg : w13.grownBy w15 (some go12) := (by rw [hw]; exact HP14.2); have hp_ : Kd.R (Kd.int .i64) 3 w15 w0.heap.size (fun k_ => (P0_ k_ ∨ w.heap.size ≤ k_) ∧ some k_ ≠ (.slice Ao4 x0_1.length co4 : Value).ownBlock) (.slice (some ⟨go12, 0, none⟩) x3_1.length co7) y150 := (by rw [hw, Ny150.out]; exact HP14.1); clear HP14; have n0_ := Aside0.mk (Kd.R_after (v := (.slice (some ⟨go12, 0, none⟩) x3_1.length co7)) (v1 := (.slice (some ⟨go12, 0, none⟩) x3_1.length co7)) (ok := (fun k_ => (P0_ k_ ∨ w.heap.size ≤ k_))) (by (with_reducible repeat (first | apply Kd.R_alloc | apply Kd.R_drewN | apply Kd.R_drew)); exact HO_0.out) hg (.inl rfl)); have n1_ := Aside0.mk (hp_); have n2_ := Aside0.mk ((by rw [hw]; exact below_set (HB.out) GB12.out : Below w0.heap.size w0 w15)); have n3_ := Aside0.mk (Kept.of_grown (S := (fun k_ => P0_ k_)) hg (by repeat (first | (with_reducible first | exact HK.out | apply Kept.alloc | apply Kept.drewN | apply Kept.drew) | exact HK.out)) (fun k_ e_ => (HO_3.out.1 k_ e_).1)); clear HO_0; clear HO_3; clear HB; clear HK; have HO_0 := n0_; have HO_3 := n1_; have HB := n2_; have HK := n3_; clear n0_ n1_ n2_ n3_; clear hg hw hp_))
                (try simp only [← hl0_1, ← hl3_1])
                go_roundg k1
                case measure => have := HK1.out; omega
                case rel => exact ⟨(t149), (y150), (wrap64 (x10_1 + 1)), (by first | rfl | (simp; done) | (simp [*]; done)), H', ⟨by have := HK1.out; omega⟩, ⟨by (try simp only [hl0_1]); (try simp only [hl3_1]); (with_reducible repeat (first | apply Kd.R_alloc | apply Kd.R_drewN | apply Kd.R_drew)); exact HO_0.out⟩, ⟨by (try simp only [hl0_1]); (try simp only [hl3_1]); (with_reducible repeat (first | apply Kd.R_alloc | apply Kd.R_drewN | apply Kd.R_drew)); exact HO_3.out⟩, ⟨by repeat (first | (with_reducible first | exact HK.out | apply Kept.alloc | apply Kept.drewN | apply Kept.drew) | exact HK.out)⟩, ⟨by repeat (first | (with_reducible first | exact HB.out | apply below_alloc | apply pw_below_drewN | apply below_drew1) | exact HB.out)⟩⟩
              · rw [if_neg c11] at H
                exact absurd H (by simp)
            · rw [if_neg c10] at H
              exact absurd H (by simp)
          · rw [if_neg c8] at H
            have c8b0 : decide (x10_1 < (y145.length : Int)) = false := decide_eq_false c8
            (try (have c8b0_hl0_1 := c8b0; simp only [hl0_1] at c8b0_hl0_1))
            (try (have c8b0_hl3_1 := c8b0; simp only [hl3_1] at c8b0_hl3_1))
            clear c8
            replace H := Option.bind_eq_some_iff.mp H
            obtain ⟨t151, A160, H⟩ := H
            replace H : (some (t151, x0_1)) = some (r1, r2) := H
            have A16 := Aside0.mk A160
            clear A160
            simp only [Option.some.injEq, Prod.mk.injEq] at H
            obtain ⟨rfl, rfl⟩ := H
            go_wp2_with (first | ((with_reducible refine gate_callee (f := 15) rfl ?_); refine goesL_ (some 21) rfl rfl Try.func15 (by kernel_rfl) rfl #[.slice Ao7 x3_1.length co7] rfl (by (try simp only [List.map_toArray, List.map_cons, List.map_nil]); first | done | rfl | (simp only [List.length_drop, List.length_take]; rfl)) ?_; (with_reducible refine (partition_Canonical.calls _ _ x3_1 t151 _ ?side1 ?side2 A16.out).mono ?_); (case side1 => repeat (first | exact (Kd.R_reads' HO_3.out).2.2 | (with_reducible refine Kd.C_alloc ?_ _) | (with_reducible refine Kd.C_drewN ?_ _) | (with_reducible refine Kd.C_drew ?_))); (case side2 => exact (Kd.R_reads' HO_3.out).2.1); rintro e w17 ⟨v152, rfl, ho0, hb⟩; refine ⟨_, rfl, ?_⟩; have n0_ := Aside0.mk (Kd.R_elder' (by (with_reducible repeat (first | apply Kd.R_alloc | apply Kd.R_drewN | apply Kd.R_drew)); exact HO_0.out) (Kd.R_base ho0) hb); have n1_ := Aside0.mk (Kd.R_elder' (by (with_reducible repeat (first | apply Kd.R_alloc | apply Kd.R_drewN | apply Kd.R_drew)); exact HO_3.out) (Kd.R_base ho0) hb); have n2_ := Aside0.mk (Kd.R_lower (Kd.R_new' (Kd.R_new' (Kd.R_newM (M := fun k_ => (P0_ k_ ∨ w.heap.size ≤ k_)) ho0 (by first | exact HK.out.1 | exact (show Kept w _ (fun k_ => P0_ k_) from by repeat (first | (with_reducible first | exact HK.out | apply Kept.alloc | apply Kept.drewN | apply Kept.drew) | exact HK.out)).1) (fun k_ h_ => .inr h_)) (Kd.R_lt (by (with_reducible repeat (first | apply Kd.R_alloc | apply Kd.R_drewN | apply Kd.R_drew)); exact HO_0.out))) (Kd.R_lt (by (with_reducible repeat (first | apply Kd.R_alloc | apply Kd.R_drewN | apply Kd.R_drew)); exact HO_3.out))) (below_size (by repeat (first | (with_reducible first | exact HB.out | apply below_alloc | apply pw_below_drewN | apply below_drew1) | exact HB.out)))); have n3_ := Aside0.mk (Kept.below (S := (fun k_ => P0_ k_)) (by repeat (first | (with_reducible first | exact HK.out | apply Kept.alloc | apply Kept.drewN | apply Kept.drew) | exact HK.out)) hb); have n4_ := Aside0.mk (below_step (by repeat (first | (with_reducible first | exact HB.out | apply below_alloc | apply pw_below_drewN | apply below_drew1) | exact HB.out)) hb); clear HO_0; clear HO_3; clear HK; clear HB; have HO_0 := n0_; have HO_3 := n1_; have HO153 := n2_; have HK := n3_; have HB := n4_; clear n0_ n1_ n2_ n3_ n4_; (try clear hb); (try clear hb2); (try clear hk); (try clear hi); (try clear ho0)))
            go_ret
            exact ⟨_, by first | rfl | (simp [errW_none, errW_some] <;> rfl) | (simp [*, errW_none, errW_some] <;> rfl), (by first | exact (by (with_reducible repeat (first | apply Kd.R_alloc | apply Kd.R_drewN | apply Kd.R_drew)); exact Kd.R_mono HO153.out (fun _ hk => ⟨hk.1.1.1, hk.1.2⟩)) | (simp only [hl0_1, hl3_1]; exact (by (with_reducible repeat (first | apply Kd.R_alloc | apply Kd.R_drewN | apply Kd.R_drew)); exact Kd.R_mono HO153.out (fun _ hk => ⟨hk.1.1.1, hk.1.2⟩)))), (by first | exact (by (with_reducible repeat (first | apply Kd.R_alloc | apply Kd.R_drewN | apply Kd.R_drew)); exact Kd.R_mono HO_0.out (fun _ hk => hk.1.1)) | (simp only [hl0_1, hl3_1]; exact (by (with_reducible repeat (first | apply Kd.R_alloc | apply Kd.R_drewN | apply Kd.R_drew)); exact Kd.R_mono HO_0.out (fun _ hk => hk.1.1)))), by repeat (first | (with_reducible first | exact HB.out | apply below_alloc | apply pw_below_drewN | apply below_drew1) | exact HB.out), by repeat (first | (with_reducible first | exact HK.out | apply Kept.alloc | apply Kept.drewN | apply Kept.drew) | exact HK.out)⟩
    · rw [if_neg c3] at H
      exact absurd H (by simp)
  · rw [if_neg c2] at H
    exact absurd H (by simp)

end Go.Proofs.Ytjpghckijecdcaa.PPartitionJoins
