import Derived.Test.YtpjbmgoagehjkaaZDfaReachesx0
import Derived.Test.YtpjbmgoagehjkaaZDfaReachesx1
import Derived.Test.YtpjbmgoagehjkaaZDfaReachesx7
namespace Go.Proofs.Ytpjbmgoagehjkaa.PDfaReaches
open Go.RowKit Go.Proofs.YtpjbmgoagehjkaaH Go.Proofs.YtpjbmgoagehjkaaW.PrintWords Go.Proofs.YtpjbmgoagehjkaaW.PrintLast Go.Proofs.YtpjbmgoagehjkaaW.PrintMore
attribute [local go_sem] max2_int min2_int max_two min_two max_three min_three max_four min_four   -- for this text's walks alone
set_option linter.unusedVariables false
set_option linter.unusedSimpArgs false
/-! ### dfa_words: function 52 -/
def dfa_words.l0 : Nat → List Int → List Int → List ByteArray → Int → Option (List ByteArray)
 | 0, _, _, _, _ => none
 | k + 1, x0, x1, x5, x6 => if x6 < (x0.length : Int) then (if 0 ≤ x6 then (if 0 ≤ (rd x0 x6) then (if (rd x0 x6) < (x5.length : Int) then (if x6 < (x1.length : Int) then (if (rdOf ByteArray.empty x5 (rd x0 x6)).size + (Utf8.encode (wrap32 (wrap64 (97 + (rd x1 x6))))).size ≤ 9223372036854775807 then (if x6 < (x5.length : Int) then (dfa_words.l0 k x0 x1 (x5.set (x6 : Int).toNat ((rdOf ByteArray.empty x5 (rd x0 x6)) ++ (Utf8.encode (wrap32 (wrap64 (97 + (rd x1 x6))))))) (wrap64 (x6 + 1))) else (none)) else (none)) else (none)) else (none)) else (none)) else (none)) else (some x5)
def dfa_words.f (k : Nat) (l0 : List Int) (l1 : List Int) : Option (List ByteArray) := if 0 ≤ (l0.length : Int) then (if ((l0.length : Int) : Int).toNat ≤ 17592186044416 then (dfa_words.l0 k l0 l1 (List.replicate ((l0.length : Int) : Int).toNat (⟨#[]⟩ : ByteArray)) 1) else (none)) else (none)
theorem dfa_words.mono_l : ∀ k, (∀ y0 y1 y2 y3, LeO (dfa_words.l0 k y0 y1 y2 y3) (dfa_words.l0 (k + 1) y0 y1 y2 y3))
 | 0 => fun _ _ _ _ r h => by simp [dfa_words.l0] at h
 | k + 1 => by
  have ih0 := dfa_words.mono_l k
  (focus
  intro y0 y1 y2 y3
  unfold dfa_words.l0
  repeat' first
  | (with_reducible exact ih0 _ _ _ _)
  | (with_reducible exact LeO.refl _)
  | (with_reducible exact LeO.none _)
  | (with_reducible refine LeO.ite ?_ ?_)
  | (with_reducible refine LeO.bind ?_ (fun _ => ?_))
  | exact ih0 _ _ _ _
  | exact LeO.none _
  | refine LeO.ite ?_ ?_
  | refine LeO.bind ?_ (fun _ => ?_)
  )
theorem dfa_words.mono : ∀ a0 a1 k, LeO (dfa_words.f k a0 a1) (dfa_words.f (k + 1) a0 a1) := by
 intro a0 a1 k
 have ih0 := dfa_words.mono_l k
 unfold dfa_words.f
 repeat' first
  | (with_reducible exact ih0 _ _ _ _)
  | (with_reducible exact LeO.refl _)
  | (with_reducible exact LeO.none _)
  | (with_reducible refine LeO.ite ?_ ?_)
  | (with_reducible refine LeO.bind ?_ (fun _ => ?_))
  | exact ih0 _ _ _ _
  | exact LeO.none _
  | refine LeO.ite ?_ ?_
  | refine LeO.bind ?_ (fun _ => ?_)
def dfa_words.T5 : Bool × List (List Nat × List Nat) := (true, [([], []), ([], []), ([], []), ([], []), ([], []), ([3, 4], [3, 4]), ([5], [5]), ([2, 6], [2, 6]), ([7], [7]), ([], []), ([], []), ([9, 10], [9, 10]), ([11], [11]), ([12], [12]), ([13], [13]), ([14], [14]), ([8, 15], [8, 15]), ([0, 1, 0, 1, 2, 3, 4, 5, 6, 7, 8, 9, 10, 11, 12, 13, 14, 15, 16], [0, 1]), ([17, 16, 0, 1, 2, 3, 4, 5, 6, 7, 8, 9, 10, 11, 12, 13, 14, 15, 16], [16, 17])])
def dfa_words.B5 : List Nat := [0, 0, 0, 0, 0, 24, 56, 124, 252, 0, 0, 1536, 3584, 7680, 15872, 32256, 65532, 131071, 262143]
theorem dfa_words.tab5 : rtab .any (opsOf Try.f52 5) = dfa_words.T5 := by kernel_rfl
theorem dfa_words.bits5 : waitsOk dfa_words.T5.2 dfa_words.B5 = true := by kernel_rfl
set_option maxHeartbeats 8000000 in
set_option maxRecDepth 100000 in
theorem dfa_words.calls (k : Nat) (A0 : Option Addr) (c0 : Nat) (l0 : List Int) (A1 : Option Addr) (c1 : Nat) (l1 : List Int) (r : List ByteArray) (w : World) (hr0 : Kd.C (Kd.int .i64) w A0 l0.length l0) (hc0 : l0.length ≤ c0) (hr1 : Kd.C (Kd.int .i64) w A1 l1.length l1) (hc1 : l1.length ≤ c1) (h : dfa_words.f k l0 l1 = some r) :
 Calls Try.prog 52 #[.slice A0 l0.length c0, .slice A1 l1.length c1] w fun e w' => ∃ v0_ : Value, e = .returned (v0_) ∧ Kd.R Kd.string 9 w' w.heap.size (fun _ => True) v0_ r ∧ Below w.heap.size w w' := by
 have cv21_9 : ∀ (n_ : Int) (w_ : World), (convert 21 9 (.int .i32 n_)).run Try.prog w_ = .ok (.string (Utf8.encode n_)) w_ := fun n_ w_ => by simp [convert, run_underlying Try.underlying21, run_underlying Try.underlying9, Conv.intToString]
 have HR0 := Aside0.mk hr0
 have HC0 := Aside0.mk hc0
 clear hr0 hc0
 have HR1 := Aside0.mk hr1
 have HC1 := Aside0.mk hc1
 clear hr1 hc1
 have HB := Aside0.mk (Below.refl w.heap.size w)
 have H : (if 0 ≤ (l0.length : Int) then (if ((l0.length : Int) : Int).toNat ≤ 17592186044416 then (dfa_words.l0 k l0 l1 (List.replicate ((l0.length : Int) : Int).toNat (⟨#[]⟩ : ByteArray)) 1) else (none)) else (none)) = some r := h
 clear h
 by_cases c3 : 0 ≤ (l0.length : Int)
 (focus
 rw [if_pos c3] at H
 have c3b0 := eq_true c3
 have c3b1 : decide (0 ≤ (l0.length : Int)) = true := decide_eq_true c3
 clear c3
 by_cases c4 : ((l0.length : Int) : Int).toNat ≤ 17592186044416
 (focus
 rw [if_pos c4] at H
 have c4b0 := eq_true c4
 have c4b1 : decide (((l0.length : Int) : Int).toNat ≤ 17592186044416) = true := decide_eq_true c4
 clear c4
 obtain ⟨y255, hy255⟩ : ∃ y_ : List ByteArray, y_ = (List.replicate ((l0.length : Int) : Int).toNat (⟨#[]⟩ : ByteArray)) := ⟨_, rfl⟩
 replace H : (dfa_words.l0 k l0 l1 y255 1) = some r := by first | (rw [hy255]; with_reducible exact H) | (have H2_ := (Option.bind_some _ _).symm.trans H; rw [hy255]; with_reducible exact H2_) | (have H2_ := (Option.bind_some _ _).symm.trans H; with_reducible exact H2_) | with_reducible exact H | (rw [hy255]; exact H) | exact H
 have Ny255 := Aside0.mk hy255
 clear hy255
 have H' := Aside0.mk H
 clear H
 go_enter Try.func52, Try.ntmps52
 go_wp2_with (first | ((with_reducible refine gate_dst (N := 9) rfl ?_); refine Kd.R_make Kd.string _ 9 rfl (N := 9) rfl 30 _ _ rfl (l0.length : Int) rfl rfl Try.underlying30 (.string ⟨#[]⟩) 16 info9 rfl (by decide) (by omega) (⟨#[]⟩ : ByteArray) (ok := fun _ => True) (okp := fun _ => True) rfl (fun _ hk => hk) trivial (of_decide_eq_true (by first | (with_reducible assumption) | assumption)) (Nat.le_trans (Nat.mul_le_mul_right _ (of_decide_eq_true (by first | (with_reducible assumption) | assumption) : (l0.length : Int).toNat ≤ 17592186044416)) (by omega)) (Below.refl _ _) (Nat.le_refl _) ?_; intro v256 w5 ho6 hb hg_ hnew_; clear hg_ hnew_; (first | rw [← Ny255.out] at ho6 | (simp only [Int.reduceToNat] at ho6; rw [← Ny255.out] at ho6)); have n0_ := Aside0.mk (Kd.R_lower ho6 (below_size (by repeat (first | (with_reducible first | exact HB.out | apply below_alloc | apply pw_below_drewN | apply below_drew1) | exact HB.out)))); have n1_ := Aside0.mk (below_step (by repeat (first | (with_reducible first | exact HB.out | apply below_alloc | apply pw_below_drewN | apply below_drew1) | exact HB.out)) hb); clear HB; have HO257 := n0_; have HB := n1_; clear n0_ n1_; clear hb ho6))
 go_loopg [6] k (fun kq v6 w' => ∃ (x5_1 : List ByteArray) (x6_1 : Int), v6 = .int .i64 x6_1 ∧ Aside0 (dfa_words.l0 kq l0 l1 x5_1 x6_1 = some r) ∧ Aside0 (kq ≤ k) ∧ Aside0 (Kd.R Kd.string 9 w' w.heap.size (fun _ => True) v256 x5_1) ∧ Aside0 (Below w.heap.size w w'))
 case atStart => exact ⟨(y255), (1), (by first | rfl | (simp; done) | (simp [*]; done)), H', ⟨Nat.le_refl _⟩, ⟨by (with_reducible repeat (first | apply Kd.R_alloc | apply Kd.R_drewN | apply Kd.R_drew)); exact HO257.out⟩, ⟨by repeat (first | (with_reducible first | exact HB.out | apply below_alloc | apply pw_below_drewN | apply below_drew1) | exact HB.out)⟩⟩
 case round =>
  clear H'
  try clear c1
  try clear p2
  try clear c3
  try clear c3b0
  try clear c3b1
  try clear c4
  try clear c4b0
  try clear c4b1
  try clear c5
  obtain ⟨x5_1, x6_1, rfl, HA, HK1, HO_5, HB⟩ := hrel
  cases gk with
  | zero => exact absurd HA.out (by simp [dfa_words.l0])
  | succ k1 =>
   have H := HA.out
   clear HA
   simp only [dfa_words.l0] at H
   by_cases c7 : x6_1 < (l0.length : Int)
   (focus
   rw [if_pos c7] at H
   have c7b0 : decide (x6_1 < (l0.length : Int)) = true := decide_eq_true c7
   clear c7
   by_cases c8 : 0 ≤ x6_1
   (focus
   rw [if_pos c8] at H
   have c8b0 : decide (0 ≤ x6_1) = true := decide_eq_true c8
   clear c8
   by_cases c9 : 0 ≤ (rd l0 x6_1)
   (focus
   rw [if_pos c9] at H
   have c9b0 : decide (0 ≤ (rd l0 x6_1)) = true := decide_eq_true c9
   clear c9
   by_cases c10 : (rd l0 x6_1) < (x5_1.length : Int)
   (focus
   rw [if_pos c10] at H
   have c10b0 : decide ((rd l0 x6_1) < (x5_1.length : Int)) = true := decide_eq_true c10
   clear c10
   by_cases c11 : x6_1 < (l1.length : Int)
   (focus
   rw [if_pos c11] at H
   have c11b0 : decide (x6_1 < (l1.length : Int)) = true := decide_eq_true c11
   clear c11
   by_cases c12 : (rdOf ByteArray.empty x5_1 (rd l0 x6_1)).size + (Utf8.encode (wrap32 (wrap64 (97 + (rd l1 x6_1))))).size ≤ 9223372036854775807
   (focus
   rw [if_pos c12] at H
   have c12b0 := eq_true c12
   have c12b1 : decide ((rdOf ByteArray.empty x5_1 (rd l0 x6_1)).size + (Utf8.encode (wrap32 (wrap64 (97 + (rd l1 x6_1))))).size ≤ 9223372036854775807) = true := decide_eq_true c12
   try have c12b2 : (9223372036854775807 < (rdOf ByteArray.empty x5_1 (rd l0 x6_1)).size + (Utf8.encode (wrap32 (wrap64 (97 + (rd l1 x6_1))))).size) = False := eq_false (Nat.not_lt.2 c12)
   by_cases c13 : x6_1 < (x5_1.length : Int)
   (focus
   rw [if_pos c13] at H
   have c13b0 : decide (x6_1 < (x5_1.length : Int)) = true := decide_eq_true c13
   clear c13
   obtain ⟨y261, hy261⟩ : ∃ y_ : List ByteArray, y_ = (x5_1.set (x6_1 : Int).toNat ((rdOf ByteArray.empty x5_1 (rd l0 x6_1)) ++ (Utf8.encode (wrap32 (wrap64 (97 + (rd l1 x6_1))))))) := ⟨_, rfl⟩
   replace H : (dfa_words.l0 k1 l0 l1 y261 (wrap64 (x6_1 + 1))) = some r := by first | (rw [hy261]; with_reducible exact H) | (have H2_ := (Option.bind_some _ _).symm.trans H; rw [hy261]; with_reducible exact H2_) | (have H2_ := (Option.bind_some _ _).symm.trans H; with_reducible exact H2_) | with_reducible exact H | (rw [hy261]; exact H) | exact H
   have Ny261 := Aside0.mk hy261
   clear hy261
   have H' := Aside0.mk H
   clear H
   try go_wp2
   have n0_ := Aside0.mk (Kd.R_drew HO_5.out)
   have n1_ := Aside0.mk (below_drew1 HB.out)
   clear HO_5
   clear HB
   have HO_5 := n0_
   have HB := n1_
   clear n0_ n1_
   have p258 : 0 ≤ (x6_1 : Int) := of_decide_eq_true (by first | (with_reducible assumption) | assumption)
   have q258 : x6_1 < (l0.length : Int) := of_decide_eq_true (by first | (with_reducible assumption) | assumption)
   obtain ⟨ad258, e258, hx258_0⟩ := Kd.at_int HR0.out x6_1 p258 q258
   have hw258_0 := hx258_0
   cases e258
   (try replace hx258_0 := (HB.out.cell (World.block_lt_of_cell? w _ hx258_0)).trans hx258_0)
   replace p258 := eq_true p258
   replace q258 := eq_true q258
   obtain ⟨Ao16, co16, eo16⟩ := Kd.R_slice HO_5.out
   (first | subst eo16 | (injection eo16 with f1_ f2_ f3_; have f4_ := f1_.symm; have f5_ := f3_.symm; clear f1_ f2_ f3_; subst f4_; subst f5_))
   have p259 : 0 ≤ ((rd l0 x6_1) : Int) := of_decide_eq_true (by first | (with_reducible assumption) | assumption)
   have q259 : (rd l0 x6_1) < (x5_1.length : Int) := of_decide_eq_true (by first | (with_reducible assumption) | assumption)
   obtain ⟨ad259, e259, hx259_0⟩ := Kd.at_string (Kd.R_reads' HO_5.out).2.2 (rd l0 x6_1) p259 q259
   cases e259
   replace p259 := eq_true p259
   replace q259 := eq_true q259
   have p260 : 0 ≤ (x6_1 : Int) := of_decide_eq_true (by first | (with_reducible assumption) | assumption)
   have q260 : x6_1 < (l1.length : Int) := of_decide_eq_true (by first | (with_reducible assumption) | assumption)
   obtain ⟨ad260, e260, hx260_0⟩ := Kd.at_int HR1.out x6_1 p260 q260
   have hw260_0 := hx260_0
   cases e260
   (try replace hx260_0 := (HB.out.cell (World.block_lt_of_cell? w _ hx260_0)).trans hx260_0)
   replace p260 := eq_true p260
   replace q260 := eq_true q260
   have p14 : 0 ≤ (x6_1 : Int) := of_decide_eq_true (by first | (with_reducible assumption) | assumption)
   have q14 : (x6_1 : Int) < ((x5_1.length : Int) : Int) := of_decide_eq_true (by first | (with_reducible assumption) | assumption)
   obtain ⟨go14, co14, eo14, gb14, gl14, cl14, HG14⟩ := Kd.R_form HO_5.out (by first | omega | (have e_ := (Kd.R_reads' HO_5.out).1; omega))
   (first | cases eo14 | (injection eo14 with ea_ en_ ec_; (first | subst ea_ | (injection ea_ with ea_; subst ea_)); subst ec_; clear en_))
   have GB14 := Aside0.mk gb14
   have GG14 := Aside0.mk HG14
   clear gb14 gl14 HG14
   (first | simp only [add_plain] at hx259_0 | skip)
   obtain ⟨hx14_0, hf14_0⟩ := Kd.R_celln (⟨#[]⟩ : ByteArray) HO_5.out (x6_1 : Int) p14 q14
   replace p14 := eq_true p14
   replace q14 := eq_true q14
   have HP17 := Kd.R_putn HO_5.out (x6_1 : Int) ((rdOf ByteArray.empty x5_1 (rd l0 x6_1)) ++ (Utf8.encode (wrap32 (wrap64 (97 + (rd l1 x6_1))))))
   rw [← Ny261.out] at HP17
   have HQ17 := Aside0.mk HP17
   clear HP17
   refine start_ (n := 19) (S := fun w' => w'.cell? (ad258.add (x6_1).toNat) = some (.int .i64 (rd l0 x6_1)) ∧ w'.cell? ⟨go14, ((rd l0 x6_1)).toNat, none⟩ = some (.string (rdOf ByteArray.empty x5_1 (rd l0 x6_1))) ∧ w'.cell? (ad260.add (x6_1).toNat) = some (.int .i64 (rd l1 x6_1))) (ds := [18]) #[false, false, false, false, false, false, false, false, false, false, false, false, false, false, false, false, false, false, false] (by kernel_rfl) rfl rfl ⟨((HB.out.cell (World.block_lt_of_cell? w _ hw258_0)).trans hw258_0), hx259_0, ((HB.out.cell (World.block_lt_of_cell? w _ hw260_0)).trans hw260_0)⟩ (fun hHeld => ?_); refine with_tabW dfa_words.tab5 dfa_words.bits5 (fun HT_ HW_ => ?_)
   generalize wr.drew = w15 at HO_5 HB GG14 HQ17 hf14_0 hx14_0 hx258_0 hx259_0 hx260_0 hHeld ⊢
   refine pure_ (i := 0) (N := some 16) (v := ?_) (a' := ?_) #[true, false, false, false, false, false, false, false, false, false, false, false, false, false, false, false, false, false, false] rfl rfl (any_of HT_.out (by kernel_rfl)) (fun _ _ _ h => h) (Or.inl ⟨by rfl, ?_⟩) ?_ ?_
   rotate_left
   (focus
   intro w'
   go_simp
   with_reducible rfl
   )
   rotate_left
   (focus
   simp only [Act.put, List.setIfInBounds_toArray, List.set_cons_zero, List.set_cons_succ, i64_w, i32_w]
   rfl
   )
   refine pure_ (i := 1) (N := some 17) (v := ?_) (a' := ?_) #[true, true, false, false, false, false, false, false, false, false, false, false, false, false, false, false, false, false, false] rfl rfl (any_of HT_.out (by kernel_rfl)) (fun _ _ _ h => h) (Or.inl ⟨by rfl, ?_⟩) ?_ ?_
   rotate_left
   (focus
   intro w'
   go_simp
   with_reducible rfl
   )
   rotate_left
   (focus
   simp only [Act.put, List.setIfInBounds_toArray, List.set_cons_zero, List.set_cons_succ, i64_w, i32_w]
   rfl
   )
   refine pure_ (i := 2) (N := some 18) (v := ?_) (a' := ?_) #[true, true, true, false, false, false, false, false, false, false, false, false, false, false, false, false, false, false, false] rfl rfl (any_of HT_.out (by kernel_rfl)) (fun _ _ _ h => h) (Or.inl ⟨by rfl, ?_⟩) ?_ ?_
   rotate_left
   (focus
   intro w'
   go_simp
   with_reducible rfl
   )
   rotate_left
   (focus
   simp only [Act.put, List.setIfInBounds_toArray, List.set_cons_zero, List.set_cons_succ, i64_w, i32_w]
   rfl
   )
   refine pure_ (i := 3) (N := some 19) (v := ?_) (a' := ?_) #[true, true, true, true, false, false, false, false, false, false, false, false, false, false, false, false, false, false, false] rfl rfl (any_of HT_.out (by kernel_rfl)) (fun _ _ _ h => h) (Or.inl ⟨by rfl, ?_⟩) ?_ ?_
   rotate_left
   (focus
   intro w'
   go_simp
   with_reducible rfl
   )
   rotate_left
   (focus
   simp only [Act.put, List.setIfInBounds_toArray, List.set_cons_zero, List.set_cons_succ, i64_w, i32_w]
   rfl
   )
   refine pure_ (i := 4) (N := some 20) (v := ?_) (a' := ?_) #[true, true, true, true, true, false, false, false, false, false, false, false, false, false, false, false, false, false, false] rfl rfl (any_of HT_.out (by kernel_rfl)) (fun _ _ _ h => h) (Or.inl ⟨by rfl, ?_⟩) ?_ ?_
   rotate_left
   (focus
   intro w'
   go_simp
   with_reducible rfl
   )
   rotate_left
   (focus
   simp only [Act.put, List.setIfInBounds_toArray, List.set_cons_zero, List.set_cons_succ, i64_w, i32_w]
   rfl
   )
   refine pure_ (i := 5) (N := some 21) (v := ?_) (a' := ?_) #[true, true, true, true, true, true, false, false, false, false, false, false, false, false, false, false, false, false, false] rfl rfl (any_of HT_.out (by kernel_rfl)) (fun _ _ _ h => h) (Or.inl ⟨by rfl, ?_⟩) ?_ ?_
   rotate_left
   (focus
   intro w'
   go_simp
   with_reducible rfl
   )
   rotate_left
   (focus
   simp only [Act.put, List.setIfInBounds_toArray, List.set_cons_zero, List.set_cons_succ, i64_w, i32_w]
   rfl
   )
   refine pure_ (i := 9) (N := some 25) (v := ?_) (a' := ?_) #[true, true, true, true, true, true, false, false, false, true, false, false, false, false, false, false, false, false, false] rfl rfl (any_of HT_.out (by kernel_rfl)) (fun _ _ _ h => h) (Or.inl ⟨by rfl, ?_⟩) ?_ ?_
   rotate_left
   (focus
   intro w'
   go_simp
   with_reducible rfl
   )
   rotate_left
   (focus
   simp only [Act.put, List.setIfInBounds_toArray, List.set_cons_zero, List.set_cons_succ, i64_w, i32_w]
   rfl
   )
   refine pure_ (i := 10) (N := some 26) (v := ?_) (a' := ?_) #[true, true, true, true, true, true, false, false, false, true, true, false, false, false, false, false, false, false, false] rfl rfl (any_of HT_.out (by kernel_rfl)) (fun _ _ _ h => h) (Or.inl ⟨by rfl, ?_⟩) ?_ ?_
   rotate_left
   (focus
   intro w'
   go_simp
   with_reducible rfl
   )
   rotate_left
   (focus
   simp only [Act.put, List.setIfInBounds_toArray, List.set_cons_zero, List.set_cons_succ, i64_w, i32_w]
   rfl
   )
   refine pure_ (i := 11) (N := some 27) (v := ?_) (a' := ?_) #[true, true, true, true, true, true, false, false, false, true, true, true, false, false, false, false, false, false, false] rfl rfl (any_of HT_.out (by kernel_rfl)) (fun _ _ _ h => h) (Or.inl ⟨by rfl, ?_⟩) ?_ ?_
   rotate_left
   (focus
   intro w'
   go_simp
   with_reducible rfl
   )
   rotate_left
   (focus
   simp only [Act.put, List.setIfInBounds_toArray, List.set_cons_zero, List.set_cons_succ, i64_w, i32_w]
   rfl
   )
   refine take_ (i := 6) (N := some 22) (v := ?_) (a' := ?_) #[true, true, true, true, true, true, true, false, false, true, true, true, false, false, false, false, false, false, false] rfl rfl (take_ofW HT_.out HW_.out (by kernel_rfl)) (fun _ _ _ h => h) (Or.inl ⟨by rfl, ?_⟩) hHeld ?_ ?_
   rotate_left
   (focus
   rintro w' ⟨s0, s1, s2⟩
   go_simp
   with_reducible rfl
   )
   rotate_left
   (focus
   simp only [Act.put, List.setIfInBounds_toArray, List.set_cons_zero, List.set_cons_succ, i64_w, i32_w]
   rfl
   )
   refine pure_ (i := 7) (N := some 23) (v := ?_) (a' := ?_) #[true, true, true, true, true, true, true, true, false, true, true, true, false, false, false, false, false, false, false] rfl rfl (any_of HT_.out (by kernel_rfl)) (fun _ _ _ h => h) (Or.inl ⟨by rfl, ?_⟩) ?_ ?_
   rotate_left
   (focus
   intro w'
   go_simp
   with_reducible rfl
   )
   rotate_left
   (focus
   simp only [Act.put, List.setIfInBounds_toArray, List.set_cons_zero, List.set_cons_succ, i64_w, i32_w]
   rfl
   )
   refine take_ (i := 8) (N := some 24) (v := ?_) (a' := ?_) #[true, true, true, true, true, true, true, true, true, true, true, true, false, false, false, false, false, false, false] rfl rfl (take_ofW HT_.out HW_.out (by kernel_rfl)) (fun _ _ _ h => h) (Or.inl ⟨by rfl, ?_⟩) hHeld ?_ ?_
   rotate_left
   (focus
   rintro w' ⟨s0, s1, s2⟩
   go_simp
   with_reducible rfl
   )
   rotate_left
   (focus
   simp only [Act.put, List.setIfInBounds_toArray, List.set_cons_zero, List.set_cons_succ, i64_w, i32_w]
   rfl
   )
   refine take_ (i := 12) (N := some 28) (v := ?_) (a' := ?_) #[true, true, true, true, true, true, true, true, true, true, true, true, true, false, false, false, false, false, false] rfl rfl (take_ofW HT_.out HW_.out (by kernel_rfl)) (fun _ _ _ h => h) (Or.inl ⟨by rfl, ?_⟩) hHeld ?_ ?_
   rotate_left
   (focus
   rintro w' ⟨s0, s1, s2⟩
   go_simp
   with_reducible rfl
   )
   rotate_left
   (focus
   simp only [Act.put, List.setIfInBounds_toArray, List.set_cons_zero, List.set_cons_succ, i64_w, i32_w]
   rfl
   )
   refine pure_ (i := 13) (N := some 29) (v := ?_) (a' := ?_) #[true, true, true, true, true, true, true, true, true, true, true, true, true, true, false, false, false, false, false] rfl rfl (any_of HT_.out (by kernel_rfl)) (fun _ _ _ h => h) (Or.inl ⟨by rfl, ?_⟩) ?_ ?_
   rotate_left
   (focus
   intro w'
   go_simp
   with_reducible rfl
   )
   rotate_left
   (focus
   simp only [Act.put, List.setIfInBounds_toArray, List.set_cons_zero, List.set_cons_succ, i64_w, i32_w]
   rfl
   )
   refine pure_ (i := 14) (N := some 30) (v := ?_) (a' := ?_) #[true, true, true, true, true, true, true, true, true, true, true, true, true, true, true, false, false, false, false] rfl rfl (any_of HT_.out (by kernel_rfl)) (fun _ _ _ h => h) (Or.inl ⟨by rfl, ?_⟩) ?_ ?_
   rotate_left
   (focus
   intro w'
   go_simp
   with_reducible rfl
   )
   rotate_left
   (focus
   simp only [Act.put, List.setIfInBounds_toArray, List.set_cons_zero, List.set_cons_succ, i64_w, i32_w]
   rfl
   )
   refine pure_ (i := 15) (N := some 31) (v := ?_) (a' := ?_) #[true, true, true, true, true, true, true, true, true, true, true, true, true, true, true, true, false, false, false] rfl rfl (any_of HT_.out (by kernel_rfl)) (fun _ _ _ h => h) (Or.inl ⟨by rfl, ?_⟩) ?_ ?_
   rotate_left
   (focus
   intro w'
   go_simp
   with_reducible rfl
   )
   rotate_left
   (focus
   simp only [Act.put, List.setIfInBounds_toArray, List.set_cons_zero, List.set_cons_succ, i64_w, i32_w]
   rfl
   )
   refine pure_ (i := 16) (N := some 32) (v := ?_) (a' := ?_) #[true, true, true, true, true, true, true, true, true, true, true, true, true, true, true, true, true, false, false] rfl rfl (any_of HT_.out (by kernel_rfl)) (fun _ _ _ h => h) (Or.inl ⟨by rfl, ?_⟩) ?_ ?_
   rotate_left
   (focus
   intro w'
   go_simp
   with_reducible rfl
   )
   rotate_left
   (focus
   simp only [Act.put, List.setIfInBounds_toArray, List.set_cons_zero, List.set_cons_succ, i64_w, i32_w]
   rfl
   )
   refine pure_ (i := 17) (N := some 33) (v := ?_) (a' := ?_) #[true, true, true, true, true, true, true, true, true, true, true, true, true, true, true, true, true, true, false] rfl rfl (any_of HT_.out (by kernel_rfl)) (fun _ _ _ h => h) (Or.inl ⟨by rfl, ?_⟩) ?_ ?_
   rotate_left
   (focus
   intro w'
   go_simp
   with_reducible rfl
   )
   rotate_left
   (focus
   simp only [Act.put, List.setIfInBounds_toArray, List.set_cons_zero, List.set_cons_succ, i64_w, i32_w]
   rfl
   )
   refine last_ (i := 18) (N := none) #[true, true, true, true, true, true, true, true, true, true, true, true, true, true, true, true, true, true, true] rfl rfl (one_of HT_.out (by kernel_rfl)) (by decide) (fun K hK => ?_)
   refine skip_ (w1 := ?_) (by rfl) rfl ?_ ?_
   rotate_left
   (focus
   go_simp
   rfl
   )
   refine hK.out _ _ ?_
   clear hK K
   refine done_ (done_of HT_.out (by kernel_rfl)) ?_
   try go_wp2
   go_roundg k1
   case measure => have := HK1.out; omega
   case rel => exact ⟨(y261), (wrap64 (x6_1 + 1)), (by first | rfl | (simp; done) | (simp [*]; done)), H', ⟨by have := HK1.out; omega⟩, ⟨by (with_reducible repeat (first | apply Kd.R_alloc | apply Kd.R_drewN | apply Kd.R_drew)); exact HQ17.out⟩, ⟨by repeat (first | (with_reducible first | exact HB.out | apply below_alloc | apply pw_below_drewN | apply below_drew1 | refine below_set ?_ GB14.out) | exact HB.out)⟩⟩
   )
   (focus
   rw [if_neg c13] at H
   exact absurd H (by simp)
   )
   )
   (focus
   rw [if_neg c12] at H
   exact absurd H (by simp)
   )
   )
   (focus
   rw [if_neg c11] at H
   exact absurd H (by simp)
   )
   )
   (focus
   rw [if_neg c10] at H
   exact absurd H (by simp)
   )
   )
   (focus
   rw [if_neg c9] at H
   exact absurd H (by simp)
   )
   )
   (focus
   rw [if_neg c8] at H
   exact absurd H (by simp)
   )
   )
   (focus
   rw [if_neg c7] at H
   have c7b0 : decide (x6_1 < (l0.length : Int)) = false := decide_eq_false c7
   clear c7
   obtain rfl := Option.some.inj H
   go_wp2
   go_ret
   exact ⟨_, by first | rfl | (simp [errW_none, errW_some] <;> rfl) | (simp [*, errW_none, errW_some] <;> rfl), by (with_reducible repeat (first | apply Kd.R_alloc | apply Kd.R_drewN | apply Kd.R_drew)); exact HO_5.out, by repeat (first | (with_reducible first | exact HB.out | apply below_alloc | apply pw_below_drewN | apply below_drew1) | exact HB.out)⟩
   )
 )
 (focus
 rw [if_neg c4] at H
 exact absurd H (by simp)
 )
 )
 (focus
 rw [if_neg c3] at H
 exact absurd H (by simp)
 )
/-! ### dfa_Access: function 37 -/
def dfa_Access.f (k : Nat) (a0_0 : Int) (a0_1 : Int) (l0_2 : List Bool) (l0_3 : List (List Int)) : Option (List ByteArray) := (dfa_Validate.f k a0_0 a0_1 l0_2 l0_3).bind fun t263 => (if t263 = 0 then ((dfa_search.f k a0_0 a0_1 l0_2 l0_3).bind fun bt264 => ((dfa_words.f k bt264.2.1 bt264.2.2.1).bind fun t276 => (some t276))) else (some ([] : List ByteArray)))
theorem dfa_Access.mono : ∀ a0 a1 a2 a3 k, LeO (dfa_Access.f k a0 a1 a2 a3) (dfa_Access.f (k + 1) a0 a1 a2 a3) := by
 intro a0 a1 a2 a3 k
 unfold dfa_Access.f
 repeat' first
  | (with_reducible exact dfa_Validate.mono _ _ _ _ _)
  | (with_reducible exact dfa_search.mono _ _ _ _ _)
  | (with_reducible exact dfa_words.mono _ _ _)
  | (with_reducible exact LeO.refl _)
  | (with_reducible exact LeO.none _)
  | (with_reducible refine LeO.ite ?_ ?_)
  | (with_reducible refine LeO.bind ?_ (fun _ => ?_))
  | exact dfa_Validate.mono _ _ _ _ _
  | exact dfa_search.mono _ _ _ _ _
  | exact dfa_words.mono _ _ _
  | exact LeO.none _
  | refine LeO.ite ?_ ?_
  | refine LeO.bind ?_ (fun _ => ?_)
set_option maxHeartbeats 8000000 in
set_option maxRecDepth 100000 in
theorem dfa_Access.calls (k : Nat) (a0_0 : Int) (a0_1 : Int) (A0_2 : Option Addr) (c0_2 : Nat) (l0_2 : List Bool) (A0_3 : Option Addr) (c0_3 : Nat) (l0_3 : List (List Int)) (r : List ByteArray) (w : World) (hr0_2 : Kd.C Kd.bool w A0_2 l0_2.length l0_2) (hc0_2 : l0_2.length ≤ c0_2) (hr0_3 : Kd.C (Kd.slice 3 (Kd.int .i64)) w A0_3 l0_3.length l0_3) (hc0_3 : l0_3.length ≤ c0_3) (h : dfa_Access.f k a0_0 a0_1 l0_2 l0_3 = some r) :
 Calls Try.prog 37 #[.agg #[.int .i64 a0_0, .int .i64 a0_1, .slice A0_2 l0_2.length c0_2, .slice A0_3 l0_3.length c0_3]] w fun e w' => ∃ v0_ : Value, e = .returned (v0_) ∧ Kd.R Kd.string 9 w' w.heap.size (fun _ => True) v0_ r ∧ Below w.heap.size w w' := by
 have hu25 := Try.underlying25
 have HR0_2 := Aside0.mk hr0_2
 have HC0_2 := Aside0.mk hc0_2
 clear hr0_2 hc0_2
 have HR0_3 := Aside0.mk hr0_3
 have HC0_3 := Aside0.mk hc0_3
 clear hr0_3 hc0_3
 have HB := Aside0.mk (Below.refl w.heap.size w)
 have H : ((dfa_Validate.f k a0_0 a0_1 l0_2 l0_3).bind fun t263 => (if t263 = 0 then ((dfa_search.f k a0_0 a0_1 l0_2 l0_3).bind fun bt264 => ((dfa_words.f k bt264.2.1 bt264.2.2.1).bind fun t276 => (some t276))) else (some ([] : List ByteArray)))) = some r := h
 clear h
 replace H := Option.bind_eq_some_iff.mp H
 obtain ⟨t263, A20, H⟩ := H
 replace H : (if t263 = 0 then ((dfa_search.f k a0_0 a0_1 l0_2 l0_3).bind fun bt264 => ((dfa_words.f k bt264.2.1 bt264.2.2.1).bind fun t276 => (some t276))) else (some ([] : List ByteArray))) = some r := H
 have A2 := Aside0.mk A20
 clear A20
 by_cases c3 : t263 = 0
 (focus
 rw [if_pos c3] at H
 have c3b0 : (t263 == 0) = true := beq_iff_eq.mpr c3
 have c3b1 : (t263 != 0) = false := bne_eq_false_iff_eq.mpr c3
 clear c3
 replace H := Option.bind_eq_some_iff.mp H
 obtain ⟨⟨t264, t267, t270, t273⟩, A40, H⟩ := H
 replace H : ((dfa_words.f k t267 t270).bind fun t276 => (some t276)) = some r := H
 have A4 := Aside0.mk A40
 clear A40
 replace H := Option.bind_eq_some_iff.mp H
 obtain ⟨t276, A50, H⟩ := H
 replace H : (some t276) = some r := H
 have A5 := Aside0.mk A50
 clear A50
 obtain rfl := Option.some.inj H
 go_enter Try.func37, Try.ntmps37
 go_wp2_with (first | ((with_reducible refine gate_dst (N := 1) rfl ?_); refine box_event ?hg (N := 1) ?hd (cs := #[.int .i64 a0_0, .int .i64 a0_1, .slice A0_2 l0_2.length c0_2, .slice A0_3 l0_3.length c0_3]) (t := 25) ?hr ?_; (case hd => rfl); (case hg => rfl); (case hr => first | (go_simp; done) | (go_simp; rfl)); intro gb262 hg w6 hbox hb; have n0_ := Aside0.mk (below_step (by repeat (first | (with_reducible first | exact HB.out | apply below_alloc | apply pw_below_drewN | apply below_drew1) | exact HB.out)) hb); have n1_ := Aside0.mk (hbox); have n2_ := Aside0.mk ((by rw [hg]; exact (below_size (by repeat (first | (with_reducible first | exact HB.out | apply below_alloc | apply pw_below_drewN | apply below_drew1) | exact HB.out))) : w.heap.size ≤ gb262)); have n3_ := Aside0.mk ((by rw [hg]; exact (below_size (by repeat (first | (with_reducible first | exact HB.out | apply below_alloc | apply pw_below_drewN | apply below_drew1) | exact HB.out))) : w.heap.size ≤ gb262)); clear HB; have HB := n0_; have BK262 := n1_; have GW262 := n2_; have GE262 := n3_; clear n0_ n1_ n2_ n3_; clear hb hbox hg; have hcz7_0 : w6.cell? ⟨gb262, 0, none⟩ = some (.int .i64 a0_0) := (blk_cell BK262.out 0).trans rfl; have hcz7_1 : w6.cell? ⟨gb262, 1, none⟩ = some (.int .i64 a0_1) := (blk_cell BK262.out 1).trans rfl; have hcz7_2 : w6.cell? ⟨gb262, 2, none⟩ = some (.slice A0_2 l0_2.length c0_2) := (blk_cell BK262.out 2).trans rfl; have hcz7_3 : w6.cell? ⟨gb262, 3, none⟩ = some (.slice A0_3 l0_3.length c0_3) := (blk_cell BK262.out 3).trans rfl; have hfz7_0 := blk_frozen BK262.out 0; have hfz7_1 := blk_frozen BK262.out 1; have hfz7_2 := blk_frozen BK262.out 2; have hfz7_3 := blk_frozen BK262.out 3) | ((with_reducible refine gate_callee (f := 14) rfl ?_); refine goesL_ (some 8) rfl rfl Try.func14 (by kernel_rfl) rfl #[.agg #[.int .i64 a0_0, .int .i64 a0_1, .slice A0_2 l0_2.length c0_2, .slice A0_3 l0_3.length c0_3]] rfl (by (try simp only [List.map_toArray, List.map_cons, List.map_nil]); first | done | rfl | (simp only [List.length_drop, List.length_take]; rfl)) ?_; (with_reducible refine (dfa_Validate.calls k a0_0 a0_1 _ _ l0_2 _ _ l0_3 t263 _ ?side1 ?side2 ?side3 ?side4 A2.out).mono ?_); (case side1 => repeat (first | exact (Kd.C_below HR0_2.out HB.out) | (with_reducible refine Kd.C_alloc ?_ _) | (with_reducible refine Kd.C_drewN ?_ _) | (with_reducible refine Kd.C_drew ?_))); (case side2 => exact HC0_2.out); (case side3 => repeat (first | exact (Kd.C_below HR0_3.out HB.out) | (with_reducible refine Kd.C_alloc ?_ _) | (with_reducible refine Kd.C_drewN ?_ _) | (with_reducible refine Kd.C_drew ?_))); (case side4 => exact HC0_3.out); rintro e w8 ⟨rfl, hb⟩; refine ⟨_, rfl, ?_⟩; have n0_ := Aside0.mk (blk_below (g := gb262) (o := .cells #[.int .i64 a0_0, .int .i64 a0_1, .slice A0_2 l0_2.length c0_2, .slice A0_3 l0_3.length c0_3] 25 (0, 0)) (uB BK262.out) hb); have n1_ := Aside0.mk (below_step (by repeat (first | (with_reducible first | exact HB.out | apply below_alloc | apply pw_below_drewN | apply below_drew1 | refine below_set ?_ GE262.out) | exact HB.out)) hb); clear BK262; clear HB; have BK262 := n0_; have HB := n1_; clear n0_ n1_; (try clear hb); (try clear hb2); (try clear hk); (try clear hi); have hcz9_0 : w8.cell? ⟨gb262, 0, none⟩ = some (.int .i64 a0_0) := (blk_cell BK262.out 0).trans rfl; have hcz9_1 : w8.cell? ⟨gb262, 1, none⟩ = some (.int .i64 a0_1) := (blk_cell BK262.out 1).trans rfl; have hcz9_2 : w8.cell? ⟨gb262, 2, none⟩ = some (.slice A0_2 l0_2.length c0_2) := (blk_cell BK262.out 2).trans rfl; have hcz9_3 : w8.cell? ⟨gb262, 3, none⟩ = some (.slice A0_3 l0_3.length c0_3) := (blk_cell BK262.out 3).trans rfl; have hfz9_0 := blk_frozen BK262.out 0; have hfz9_1 := blk_frozen BK262.out 1; have hfz9_2 := blk_frozen BK262.out 2; have hfz9_3 := blk_frozen BK262.out 3) | ((with_reducible refine gate_callee (f := 48) rfl ?_); refine goesL_ (some 12) rfl rfl Try.func48 (by kernel_rfl) rfl #[.agg #[.int .i64 a0_0, .int .i64 a0_1, .slice A0_2 l0_2.length c0_2, .slice A0_3 l0_3.length c0_3]] rfl (by (try simp only [List.map_toArray, List.map_cons, List.map_nil]); first | done | rfl | (simp only [List.length_drop, List.length_take]; rfl)) ?_; (with_reducible refine (dfa_search.calls k a0_0 a0_1 _ _ l0_2 _ _ l0_3 t264 t267 t270 t273 _ ?side1 ?side2 ?side3 ?side4 A4.out).mono ?_); (case side1 => repeat (first | exact (Kd.C_below HR0_2.out HB.out) | (with_reducible refine Kd.C_alloc ?_ _) | (with_reducible refine Kd.C_drewN ?_ _) | (with_reducible refine Kd.C_drew ?_))); (case side2 => exact HC0_2.out); (case side3 => repeat (first | exact (Kd.C_below HR0_3.out HB.out) | (with_reducible refine Kd.C_alloc ?_ _) | (with_reducible refine Kd.C_drewN ?_ _) | (with_reducible refine Kd.C_drew ?_))); (case side4 => exact HC0_3.out); rintro e w10 ⟨v265, v268, v271, v274, rfl, ho0, ho1, ho2, ho3, hb⟩; refine ⟨_, rfl, ?_⟩; have n0_ := Aside0.mk (Kd.R_lower ho0 (below_size (by repeat (first | (with_reducible first | exact HB.out | apply below_alloc | apply pw_below_drewN | apply below_drew1 | refine below_set ?_ GE262.out) | exact HB.out)))); have n1_ := Aside0.mk (Kd.R_lower ho1 (below_size (by repeat (first | (with_reducible first | exact HB.out | apply below_alloc | apply pw_below_drewN | apply below_drew1 | refine below_set ?_ GE262.out) | exact HB.out)))); have n2_ := Aside0.mk (Kd.R_lower ho2 (below_size (by repeat (first | (with_reducible first | exact HB.out | apply below_alloc | apply pw_below_drewN | apply below_drew1 | refine below_set ?_ GE262.out) | exact HB.out)))); have n3_ := Aside0.mk (Kd.R_lower ho3 (below_size (by repeat (first | (with_reducible first | exact HB.out | apply below_alloc | apply pw_below_drewN | apply below_drew1 | refine below_set ?_ GE262.out) | exact HB.out)))); have n4_ := Aside0.mk (blk_below (g := gb262) (o := .cells #[.int .i64 a0_0, .int .i64 a0_1, .slice A0_2 l0_2.length c0_2, .slice A0_3 l0_3.length c0_3] 25 (0, 0)) (uB BK262.out) hb); have n5_ := Aside0.mk (below_step (by repeat (first | (with_reducible first | exact HB.out | apply below_alloc | apply pw_below_drewN | apply below_drew1 | refine below_set ?_ GE262.out) | exact HB.out)) hb); clear BK262; clear HB; have HO266 := n0_; have HO269 := n1_; have HO272 := n2_; have HO275 := n3_; have BK262 := n4_; have HB := n5_; clear n0_ n1_ n2_ n3_ n4_ n5_; (try clear hb); (try clear hb2); (try clear hk); (try clear hi); (try clear ho0); (try clear ho1); (try clear ho2); (try clear ho3); obtain ⟨Ao11, co11, eo11⟩ := Kd.R_slice HO269.out; subst eo11; obtain ⟨Ao12, co12, eo12⟩ := Kd.R_slice HO272.out; subst eo12) | ((with_reducible refine gate_callee (f := 52) rfl ?_); refine goesL_ (some 19) rfl rfl Try.func52 (by kernel_rfl) rfl #[.slice Ao11 t267.length co11, .slice Ao12 t270.length co12] rfl (by (try simp only [List.map_toArray, List.map_cons, List.map_nil]); first | done | rfl | (simp only [List.length_drop, List.length_take]; rfl)) ?_; (with_reducible refine (dfa_words.calls k _ _ t267 _ _ t270 t276 _ ?side1 ?side2 ?side3 ?side4 A5.out).mono ?_); (case side1 => repeat (first | exact (Kd.R_reads' HO269.out).2.2 | (with_reducible refine Kd.C_alloc ?_ _) | (with_reducible refine Kd.C_drewN ?_ _) | (with_reducible refine Kd.C_drew ?_))); (case side2 => exact (Kd.R_reads' HO269.out).2.1); (case side3 => repeat (first | exact (Kd.R_reads' HO272.out).2.2 | (with_reducible refine Kd.C_alloc ?_ _) | (with_reducible refine Kd.C_drewN ?_ _) | (with_reducible refine Kd.C_drew ?_))); (case side4 => exact (Kd.R_reads' HO272.out).2.1); rintro e w13 ⟨v277, rfl, ho0, hb⟩; refine ⟨_, rfl, ?_⟩; have n0_ := Aside0.mk (Kd.R_below (uR HO266.out) hb); have n1_ := Aside0.mk (Kd.R_below (uR HO269.out) hb); have n2_ := Aside0.mk (Kd.R_below (uR HO272.out) hb); have n3_ := Aside0.mk (Kd.R_below (uR HO275.out) hb); have n4_ := Aside0.mk (Kd.R_lower ho0 (below_size (by repeat (first | (with_reducible first | exact HB.out | apply below_alloc | apply pw_below_drewN | apply below_drew1 | refine below_set ?_ GE262.out) | exact HB.out)))); have n5_ := Aside0.mk (blk_below (g := gb262) (o := .cells #[.int .i64 a0_0, .int .i64 a0_1, .slice A0_2 l0_2.length c0_2, .slice A0_3 l0_3.length c0_3] 25 (0, 0)) (uB BK262.out) hb); have n6_ := Aside0.mk (below_step (by repeat (first | (with_reducible first | exact HB.out | apply below_alloc | apply pw_below_drewN | apply below_drew1 | refine below_set ?_ GE262.out) | exact HB.out)) hb); clear HO266; clear HO269; clear HO272; clear HO275; clear BK262; clear HB; have HO266 := n0_; have HO269 := n1_; have HO272 := n2_; have HO275 := n3_; have HO278 := n4_; have BK262 := n5_; have HB := n6_; clear n0_ n1_ n2_ n3_ n4_ n5_ n6_; (try clear hb); (try clear hb2); (try clear hk); (try clear hi); (try clear ho0)))
 go_ret
 exact ⟨_, by first | rfl | (simp [errW_none, errW_some] <;> rfl) | (simp [*, errW_none, errW_some] <;> rfl), by (with_reducible repeat (first | apply Kd.R_alloc | apply Kd.R_drewN | apply Kd.R_drew)); exact HO278.out, by repeat (first | (with_reducible first | exact HB.out | apply below_alloc | apply pw_below_drewN | apply below_drew1 | refine below_set ?_ GE262.out) | exact HB.out)⟩
 )
 (focus
 rw [if_neg c3] at H
 have c3b0 : (t263 == 0) = false := beq_eq_false_iff_ne.mpr c3
 have c3b1 : (t263 != 0) = true := bne_iff_ne.mpr c3
 obtain rfl := Option.some.inj H
 go_enter Try.func37, Try.ntmps37
 go_wp2_with (first | ((with_reducible refine gate_dst (N := 1) rfl ?_); refine box_event ?hg (N := 1) ?hd (cs := #[.int .i64 a0_0, .int .i64 a0_1, .slice A0_2 l0_2.length c0_2, .slice A0_3 l0_3.length c0_3]) (t := 25) ?hr ?_; (case hd => rfl); (case hg => rfl); (case hr => first | (go_simp; done) | (go_simp; rfl)); intro gb262 hg w14 hbox hb; have n0_ := Aside0.mk (below_step (by repeat (first | (with_reducible first | exact HB.out | apply below_alloc | apply pw_below_drewN | apply below_drew1) | exact HB.out)) hb); have n1_ := Aside0.mk (hbox); have n2_ := Aside0.mk ((by rw [hg]; exact (below_size (by repeat (first | (with_reducible first | exact HB.out | apply below_alloc | apply pw_below_drewN | apply below_drew1) | exact HB.out))) : w.heap.size ≤ gb262)); have n3_ := Aside0.mk ((by rw [hg]; exact (below_size (by repeat (first | (with_reducible first | exact HB.out | apply below_alloc | apply pw_below_drewN | apply below_drew1) | exact HB.out))) : w.heap.size ≤ gb262)); clear HB; have HB := n0_; have BK262 := n1_; have GW262 := n2_; have GE262 := n3_; clear n0_ n1_ n2_ n3_; clear hb hbox hg; have hcz15_0 : w14.cell? ⟨gb262, 0, none⟩ = some (.int .i64 a0_0) := (blk_cell BK262.out 0).trans rfl; have hcz15_1 : w14.cell? ⟨gb262, 1, none⟩ = some (.int .i64 a0_1) := (blk_cell BK262.out 1).trans rfl; have hcz15_2 : w14.cell? ⟨gb262, 2, none⟩ = some (.slice A0_2 l0_2.length c0_2) := (blk_cell BK262.out 2).trans rfl; have hcz15_3 : w14.cell? ⟨gb262, 3, none⟩ = some (.slice A0_3 l0_3.length c0_3) := (blk_cell BK262.out 3).trans rfl; have hfz15_0 := blk_frozen BK262.out 0; have hfz15_1 := blk_frozen BK262.out 1; have hfz15_2 := blk_frozen BK262.out 2; have hfz15_3 := blk_frozen BK262.out 3) | ((with_reducible refine gate_callee (f := 14) rfl ?_); refine goesL_ (some 8) rfl rfl Try.func14 (by kernel_rfl) rfl #[.agg #[.int .i64 a0_0, .int .i64 a0_1, .slice A0_2 l0_2.length c0_2, .slice A0_3 l0_3.length c0_3]] rfl (by (try simp only [List.map_toArray, List.map_cons, List.map_nil]); first | done | rfl | (simp only [List.length_drop, List.length_take]; rfl)) ?_; (with_reducible refine (dfa_Validate.calls k a0_0 a0_1 _ _ l0_2 _ _ l0_3 t263 _ ?side1 ?side2 ?side3 ?side4 A2.out).mono ?_); (case side1 => repeat (first | exact (Kd.C_below HR0_2.out HB.out) | (with_reducible refine Kd.C_alloc ?_ _) | (with_reducible refine Kd.C_drewN ?_ _) | (with_reducible refine Kd.C_drew ?_))); (case side2 => exact HC0_2.out); (case side3 => repeat (first | exact (Kd.C_below HR0_3.out HB.out) | (with_reducible refine Kd.C_alloc ?_ _) | (with_reducible refine Kd.C_drewN ?_ _) | (with_reducible refine Kd.C_drew ?_))); (case side4 => exact HC0_3.out); rintro e w16 ⟨rfl, hb⟩; refine ⟨_, rfl, ?_⟩; have n0_ := Aside0.mk (blk_below (g := gb262) (o := .cells #[.int .i64 a0_0, .int .i64 a0_1, .slice A0_2 l0_2.length c0_2, .slice A0_3 l0_3.length c0_3] 25 (0, 0)) (uB BK262.out) hb); have n1_ := Aside0.mk (below_step (by repeat (first | (with_reducible first | exact HB.out | apply below_alloc | apply pw_below_drewN | apply below_drew1 | refine below_set ?_ GE262.out) | exact HB.out)) hb); clear BK262; clear HB; have BK262 := n0_; have HB := n1_; clear n0_ n1_; (try clear hb); (try clear hb2); (try clear hk); (try clear hi)))
 go_ret
 exact ⟨_, by first | rfl | (simp [errW_none, errW_some] <;> rfl) | (simp [*, errW_none, errW_some] <;> rfl), by first | exact Kd.R_nil _ _ _ _ _ | exact Kd.N_nil _ _ _ _ _ | exact Kd.V_nil _ _ _ _ _ | exact Kd.Q_nil _ _ _ _ _ | exact Kd.S_nil _ _ _ _ _, by repeat (first | (with_reducible first | exact HB.out | apply below_alloc | apply pw_below_drewN | apply below_drew1 | refine below_set ?_ GE262.out) | exact HB.out)⟩
 )
end Go.Proofs.Ytpjbmgoagehjkaa.PDfaReaches
