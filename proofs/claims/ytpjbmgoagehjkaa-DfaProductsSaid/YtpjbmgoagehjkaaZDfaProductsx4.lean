import Derived.Test.YtpjbmgoagehjkaaZDfaProductsx0
import Derived.Test.YtpjbmgoagehjkaaZDfaProductsx3
namespace Go.Proofs.Ytpjbmgoagehjkaa.PDfaProducts
open Go.RowKit Go.Proofs.YtpjbmgoagehjkaaH Go.Proofs.YtpjbmgoagehjkaaW.PrintWords Go.Proofs.YtpjbmgoagehjkaaW.PrintLast Go.Proofs.YtpjbmgoagehjkaaW.PrintMore
attribute [local go_sem] max2_int min2_int max_two min_two max_three min_three max_four min_four   -- for this text's walks alone
set_option linter.unusedVariables false
set_option linter.unusedSimpArgs false
/-! ### semigroupref01_Same: function 19 -/
def semigroupref01_Same.l0 : Nat → List ByteArray → List ByteArray → Int → Int → Option (Bool)
 | 0, _, _, _, _ => none
 | k + 1, x0, x1, x12, x13 => if x13 < x12 then (if 0 ≤ x13 then (if x13 < (x0.length : Int) then (if x13 < (x1.length : Int) then (if (rdOf ByteArray.empty x0 x13).toList = (rdOf ByteArray.empty x1 x13).toList then (semigroupref01_Same.l0 k x0 x1 x12 (wrap64 (x13 + 1))) else (some false)) else (none)) else (none)) else (none)) else (some true)
def semigroupref01_Same.f (k : Nat) (l0 : List ByteArray) (l1 : List ByteArray) : Option (Bool) := if (l0.length : Int) = (l1.length : Int) then (semigroupref01_Same.l0 k l0 l1 (l0.length : Int) 0) else (some false)
theorem semigroupref01_Same.mono_l : ∀ k, (∀ y0 y1 y2 y3, LeO (semigroupref01_Same.l0 k y0 y1 y2 y3) (semigroupref01_Same.l0 (k + 1) y0 y1 y2 y3))
 | 0 => fun _ _ _ _ r h => by simp [semigroupref01_Same.l0] at h
 | k + 1 => by
  have ih0 := semigroupref01_Same.mono_l k
  (focus
  intro y0 y1 y2 y3
  unfold semigroupref01_Same.l0
  repeat' first
  | (with_reducible exact ih0 _ _ _ _)
  | (with_reducible exact LeO.refl _)
  | (with_reducible exact LeO.none _)
  | (with_reducible refine LeO.ite ?_ ?_)
  | (with_reducible refine LeO.bind ?_ (fun _ => ?_))
  | exact ih0 _ _ _ _
  | exact LeO.none _
  | refine LeO.ite ?_ ?_
  | refine LeO.bind ?_ (fun _ => ?_)
  )
theorem semigroupref01_Same.mono : ∀ a0 a1 k, LeO (semigroupref01_Same.f k a0 a1) (semigroupref01_Same.f (k + 1) a0 a1) := by
 intro a0 a1 k
 have ih0 := semigroupref01_Same.mono_l k
 unfold semigroupref01_Same.f
 repeat' first
  | (with_reducible exact ih0 _ _ _ _)
  | (with_reducible exact LeO.refl _)
  | (with_reducible exact LeO.none _)
  | (with_reducible refine LeO.ite ?_ ?_)
  | (with_reducible refine LeO.bind ?_ (fun _ => ?_))
  | exact ih0 _ _ _ _
  | exact LeO.none _
  | refine LeO.ite ?_ ?_
  | refine LeO.bind ?_ (fun _ => ?_)
set_option maxHeartbeats 8000000 in
set_option maxRecDepth 100000 in
theorem semigroupref01_Same.calls (k : Nat) (A0 : Option Addr) (c0 : Nat) (l0 : List ByteArray) (A1 : Option Addr) (c1 : Nat) (l1 : List ByteArray) (r : Bool) (w : World) (hr0 : Kd.C Kd.string w A0 l0.length l0) (hc0 : l0.length ≤ c0) (hr1 : Kd.C Kd.string w A1 l1.length l1) (hc1 : l1.length ≤ c1) (h : semigroupref01_Same.f k l0 l1 = some r) :
 Calls Try.prog 19 #[.slice A0 l0.length c0, .slice A1 l1.length c1] w fun e w' => e = .returned (.bool r) ∧ Drawn0 w w' := by
 have HR0 := Aside0.mk hr0
 have HC0 := Aside0.mk hc0
 clear hr0 hc0
 have HR1 := Aside0.mk hr1
 have HC1 := Aside0.mk hc1
 clear hr1 hc1
 have H : (if (l0.length : Int) = (l1.length : Int) then (semigroupref01_Same.l0 k l0 l1 (l0.length : Int) 0) else (some false)) = some r := h
 clear h
 by_cases c3 : (l0.length : Int) = (l1.length : Int)
 (focus
 rw [if_pos c3] at H
 have c3b0 : ((l0.length : Int) == (l1.length : Int)) = true := beq_iff_eq.mpr c3
 have c3b1 : ((l0.length : Int) != (l1.length : Int)) = false := bne_eq_false_iff_eq.mpr c3
 have c3b2 : (l0.length == l1.length) = true := by first | simpa using c3 | (simp at c3 ⊢; omega)
 clear c3
 have H' := Aside0.mk H
 clear H
 go_enter Try.func19, Try.ntmps19
 go_wp2
 repeat (go_quiet (fail); try go_wp2)
 go_loopg [13] k (fun kq v13 w' => ∃ (x13_1 : Int), v13 = .int .i64 x13_1 ∧ Aside0 (semigroupref01_Same.l0 kq l0 l1 (l0.length : Int) x13_1 = some r) ∧ Aside0 (kq ≤ k) ∧ Drawn0 w w')
 case atStart => exact ⟨(0), (by first | rfl | (simp; done) | (simp [*]; done)), H', ⟨Nat.le_refl _⟩, by repeat (first | exact Drawn0.refl _ | apply Drawn0.step)⟩
 case round =>
  clear H'
  try clear c1
  try clear p2
  try clear c3
  try clear c3b0
  try clear c3b1
  try clear c3b2
  obtain ⟨x13_1, rfl, HA, HK1, ⟨m1, rfl⟩⟩ := hrel
  cases gk with
  | zero => exact absurd HA.out (by simp [semigroupref01_Same.l0])
  | succ k1 =>
   have H := HA.out
   clear HA
   simp only [semigroupref01_Same.l0] at H
   by_cases c4 : x13_1 < (l0.length : Int)
   (focus
   rw [if_pos c4] at H
   have c4b0 : decide (x13_1 < (l0.length : Int)) = true := decide_eq_true c4
   clear c4
   by_cases c5 : 0 ≤ x13_1
   (focus
   rw [if_pos c5] at H
   have c5b0 : decide (0 ≤ x13_1) = true := decide_eq_true c5
   clear c5
   by_cases c6 : x13_1 < (l0.length : Int)
   (focus
   rw [if_pos c6] at H
   have c6b0 : decide (x13_1 < (l0.length : Int)) = true := decide_eq_true c6
   clear c6
   by_cases c7 : x13_1 < (l1.length : Int)
   (focus
   rw [if_pos c7] at H
   have c7b0 : decide (x13_1 < (l1.length : Int)) = true := decide_eq_true c7
   clear c7
   by_cases c8 : (rdOf ByteArray.empty l0 x13_1).toList = (rdOf ByteArray.empty l1 x13_1).toList
   (focus
   rw [if_pos c8] at H
   have c8b0 : ((rdOf ByteArray.empty l0 x13_1).toList == (rdOf ByteArray.empty l1 x13_1).toList) = true := beq_iff_eq.mpr c8
   have c8b1 : ((rdOf ByteArray.empty l0 x13_1).toList != (rdOf ByteArray.empty l1 x13_1).toList) = false := bne_eq_false_iff_eq.mpr c8
   clear c8
   have H' := Aside0.mk H
   clear H
   have p152 : 0 ≤ (x13_1 : Int) := of_decide_eq_true (by assumption)
   have q152 : x13_1 < (l0.length : Int) := of_decide_eq_true (by assumption)
   obtain ⟨ad152, e152, hx152_0⟩ := Kd.at_string HR0.out x13_1 p152 q152
   cases e152
   replace p152 := eq_true p152
   replace q152 := eq_true q152
   have p153 : 0 ≤ (x13_1 : Int) := of_decide_eq_true (by assumption)
   have q153 : x13_1 < (l1.length : Int) := of_decide_eq_true (by assumption)
   obtain ⟨ad153, e153, hx153_0⟩ := Kd.at_string HR1.out x13_1 p153 q153
   cases e153
   replace p153 := eq_true p153
   replace q153 := eq_true q153
   go_wp2
   repeat (go_quiet (fail); try go_wp2)
   go_roundg k1
   case measure => have := HK1.out; omega
   case rel => exact ⟨(wrap64 (x13_1 + 1)), (by first | rfl | (simp; done) | (simp [*]; done)), H', ⟨by have := HK1.out; omega⟩, by repeat (first | exact Drawn0.refl _ | apply Drawn0.step)⟩
   )
   (focus
   rw [if_neg c8] at H
   have c8b0 : ((rdOf ByteArray.empty l0 x13_1).toList == (rdOf ByteArray.empty l1 x13_1).toList) = false := beq_eq_false_iff_ne.mpr c8
   have c8b1 : ((rdOf ByteArray.empty l0 x13_1).toList != (rdOf ByteArray.empty l1 x13_1).toList) = true := bne_iff_ne.mpr c8
   obtain rfl := Option.some.inj H
   have p152 : 0 ≤ (x13_1 : Int) := of_decide_eq_true (by assumption)
   have q152 : x13_1 < (l0.length : Int) := of_decide_eq_true (by assumption)
   obtain ⟨ad152, e152, hx152_0⟩ := Kd.at_string HR0.out x13_1 p152 q152
   cases e152
   replace p152 := eq_true p152
   replace q152 := eq_true q152
   have p153 : 0 ≤ (x13_1 : Int) := of_decide_eq_true (by assumption)
   have q153 : x13_1 < (l1.length : Int) := of_decide_eq_true (by assumption)
   obtain ⟨ad153, e153, hx153_0⟩ := Kd.at_string HR1.out x13_1 p153 q153
   cases e153
   replace p153 := eq_true p153
   replace q153 := eq_true q153
   go_wp2
   repeat (go_quiet (fail); try go_wp2)
   go_ret
   exact ⟨by first | rfl | (simp; done) | (simp [*]; done), by repeat (first | exact Drawn0.refl _ | apply Drawn0.step)⟩
   )
   )
   (focus
   rw [if_neg c7] at H
   exact absurd H (by simp)
   )
   )
   (focus
   rw [if_neg c6] at H
   exact absurd H (by simp)
   )
   )
   (focus
   rw [if_neg c5] at H
   exact absurd H (by simp)
   )
   )
   (focus
   rw [if_neg c4] at H
   have c4b0 : decide (x13_1 < (l0.length : Int)) = false := decide_eq_false c4
   clear c4
   obtain rfl := Option.some.inj H
   go_wp2
   repeat (go_quiet (fail); try go_wp2)
   go_ret
   exact ⟨by first | rfl | (simp; done) | (simp [*]; done), by repeat (first | exact Drawn0.refl _ | apply Drawn0.step)⟩
   )
 )
 (focus
 rw [if_neg c3] at H
 have c3b0 : ((l0.length : Int) == (l1.length : Int)) = false := beq_eq_false_iff_ne.mpr c3
 have c3b1 : ((l0.length : Int) != (l1.length : Int)) = true := bne_iff_ne.mpr c3
 have c3b2 : (l0.length == l1.length) = false := by first | simpa using c3 | (simp at c3 ⊢; omega)
 obtain rfl := Option.some.inj H
 go_enter Try.func19, Try.ntmps19
 go_wp2
 repeat (go_quiet (fail); try go_wp2)
 go_ret
 exact ⟨by first | rfl | (simp; done) | (simp [*]; done), by repeat (first | exact Drawn0.refl _ | apply Drawn0.step)⟩
 )
/-! ### semigrouplaw07_odd: function 42 -/
def semigrouplaw07_odd.f  : Option (Int × Int × List Bool × (List (List Int))) := some (2, 0, (([false, true] : List Bool)), (([(([1, 0] : List Int)), (([0, 1] : List Int))] : List (List Int))))
set_option maxHeartbeats 8000000 in
set_option maxRecDepth 100000 in
theorem semigrouplaw07_odd.calls  (r1 : Int) (r2 : Int) (r3 : List Bool) (r4 : List (List Int)) (w : World) (h : semigrouplaw07_odd.f  = some (r1, r2, r3, r4)) :
 Calls Try.prog 42 #[] w fun e w' => ∃ v2_ v3_ : Value, e = .returned (.agg #[.int .i64 r1, .int .i64 r2, v2_, v3_]) ∧ Kd.R Kd.bool 4 w' w.heap.size (fun k_ => (w.heap.size ≤ k_)) v2_ r3 ∧ Kd.N (Kd.slice 3 (Kd.int .i64)) 38 w' w.heap.size (fun k_ => (w.heap.size ≤ k_) ∧ some k_ ≠ (v2_ : Value).ownBlock) v3_ r4 ∧ Below w.heap.size w w' := by
 have hu25 := Try.underlying25
 have HB := aM (Below.refl w.heap.size w)
 have H : (some (2, 0, (([false, true] : List Bool)), (([(([1, 0] : List Int)), (([0, 1] : List Int))] : List (List Int))))) = some (r1, r2, r3, r4) := h
 clear h
 obtain ⟨y155, hy155⟩ : ∃ y_ : List Bool, y_ = (([false, true] : List Bool)) := ⟨_, rfl⟩
 replace H : (some (2, 0, y155, (([(([1, 0] : List Int)), (([0, 1] : List Int))] : List (List Int))))) = some (r1, r2, r3, r4) := by first | (rw [hy155]; with_reducible exact H) | (have H2_ := (Option.bind_some _ _).symm.trans H; rw [hy155]; with_reducible exact H2_) | (have H2_ := (Option.bind_some _ _).symm.trans H; with_reducible exact H2_) | with_reducible exact H | (rw [hy155]; exact H) | exact H
 have Ny155 := Aside0.mk hy155
 clear hy155
 obtain ⟨y158, hy158⟩ : ∃ y_ : List Int, y_ = (([1, 0] : List Int)) := ⟨_, rfl⟩
 replace H : (some (2, 0, y155, (([y158, (([0, 1] : List Int))] : List (List Int))))) = some (r1, r2, r3, r4) := by first | (rw [hy158]; with_reducible exact H) | (have H2_ := (Option.bind_some _ _).symm.trans H; rw [hy158]; with_reducible exact H2_) | (have H2_ := (Option.bind_some _ _).symm.trans H; with_reducible exact H2_) | with_reducible exact H | (rw [hy158]; exact H) | exact H
 have Ny158 := Aside0.mk hy158
 clear hy158
 obtain ⟨y161, hy161⟩ : ∃ y_ : List Int, y_ = (([0, 1] : List Int)) := ⟨_, rfl⟩
 replace H : (some (2, 0, y155, (([y158, y161] : List (List Int))))) = some (r1, r2, r3, r4) := by first | (rw [hy161]; with_reducible exact H) | (have H2_ := (Option.bind_some _ _).symm.trans H; rw [hy161]; with_reducible exact H2_) | (have H2_ := (Option.bind_some _ _).symm.trans H; with_reducible exact H2_) | with_reducible exact H | (rw [hy161]; exact H) | exact H
 have Ny161 := Aside0.mk hy161
 clear hy161
 obtain ⟨y164, hy164⟩ : ∃ y_ : List (List Int), y_ = (([y158, y161] : List (List Int))) := ⟨_, rfl⟩
 replace H : (some (2, 0, y155, y164)) = some (r1, r2, r3, r4) := by first | (rw [hy164]; with_reducible exact H) | (have H2_ := (Option.bind_some _ _).symm.trans H; rw [hy164]; with_reducible exact H2_) | (have H2_ := (Option.bind_some _ _).symm.trans H; with_reducible exact H2_) | with_reducible exact H | (rw [hy164]; exact H) | exact H
 have Ny164 := Aside0.mk hy164
 clear hy164
 simp only [Option.some.injEq, Prod.mk.injEq] at H
 obtain ⟨rfl, rfl, rfl, rfl⟩ := H
 go_enter Try.func42, Try.ntmps42
 go_wp2_with (first | ((with_reducible refine gate_dst (N := 0) rfl ?_); refine box_event ?hg (N := 0) ?hd (cs := #[.int .i64 0, .int .i64 0, .slice none 0 0, .slice none 0 0]) (t := 25) ?hr ?_; (case hd => rfl); (case hg => rfl); (case hr => first | (go_simp; done) | (go_simp; rfl)); intro gb154 hg w1 hbox hb; have n0_ := aM (below_step (by repeat (first | (with_reducible first | exact HB.out | apply bA | apply bN | apply bD) | exact HB.out)) hb); have n1_ := aM (hbox); have n2_ := aM ((by rw [hg]; exact (below_size (by repeat (first | (with_reducible first | exact HB.out | apply bA | apply bN | apply bD) | exact HB.out))) : w.heap.size ≤ gb154)); have n3_ := aM ((by rw [hg]; exact (below_size (by repeat (first | (with_reducible first | exact HB.out | apply bA | apply bN | apply bD) | exact HB.out))) : w.heap.size ≤ gb154)); clear HB; have HB := n0_; have BK154 := n1_; have GW154 := n2_; have GE154 := n3_; clear n0_ n1_ n2_ n3_; clear hb hbox hg) | ((with_reducible refine gate_dst (N := 1) rfl ?_); refine Kd.R_lit Kd.bool _ 4 ?hg (N := 1) ?hd (xs := ([false, true] : List Bool)) (inner := [.bool false, .bool true]) (ok := fun _ => True) (okp := fun _ => True) ?hr ?hp (fun _ hk => hk) trivial (Below.refl _ _) (Nat.le_refl _) (by simp) ?_; (case hd => rfl); (case hg => rfl); (case hr => first | (go_simp; done) | (go_simp; rfl)); (case hp => exact (Reps.one (show Kd.M Kd.bool _ _ _ false [.bool false] from rfl) (Reps.one (show Kd.M Kd.bool _ _ _ true [.bool true] from rfl) (Reps.none _ _)))); intro v156 w2 ho3 hb hg_ hnew_; clear hg_ hnew_; (first | rw [← Ny155.out] at ho3 | (simp only [Int.reduceToNat] at ho3; rw [← Ny155.out] at ho3)); have n0_ := aM (Kd.R_lower (Kd.R_newM (M := fun k_ => (w.heap.size ≤ k_)) ho3 (below_size (by repeat (first | (with_reducible first | exact HB.out | apply bA | apply bN | apply bD | refine bS ?_ ‹_›) | exact HB.out))) (fun k_ h_ => h_)) (below_size (by repeat (first | (with_reducible first | exact HB.out | apply bA | apply bN | apply bD | refine bS ?_ ‹_›) | exact HB.out)))); have n1_ := aM (blk_below (uB BK154.out) hb); have n2_ := aM (below_step (by repeat (first | (with_reducible first | exact HB.out | apply bA | apply bN | apply bD | refine bS ?_ ‹_›) | exact HB.out)) hb); clear BK154; clear HB; have HO157 := n0_; have BK154 := n1_; have HB := n2_; clear n0_ n1_ n2_; clear hb ho3) | ((with_reducible refine gate_dst (N := 2) rfl ?_); refine Kd.R_lit (Kd.int .i64) _ 3 ?hg (N := 2) ?hd (xs := ([1, 0] : List Int)) (inner := [.int .i64 1, .int .i64 0]) (ok := fun _ => True) (okp := fun _ => True) ?hr ?hp (fun _ hk => hk) trivial (Below.refl _ _) (Nat.le_refl _) (by simp) ?_; (case hd => rfl); (case hg => rfl); (case hr => first | (go_simp; done) | (go_simp; rfl)); (case hp => exact (Reps.one (show Kd.M (Kd.int .i64) _ _ _ 1 [.int .i64 1] from rfl) (Reps.one (show Kd.M (Kd.int .i64) _ _ _ 0 [.int .i64 0] from rfl) (Reps.none _ _)))); intro v159 w4 ho5 hb hg_ hnew_; clear hg_ hnew_; (first | rw [← Ny158.out] at ho5 | (simp only [Int.reduceToNat] at ho5; rw [← Ny158.out] at ho5)); have n0_ := aM (Kd.R_below (uR HO157.out) hb); have n1_ := aM (Kd.R_lower (Kd.R_newM (M := fun k_ => (w.heap.size ≤ k_)) ho5 (below_size (by repeat (first | (with_reducible first | exact HB.out | apply bA | apply bN | apply bD | refine bS ?_ ‹_›) | exact HB.out))) (fun k_ h_ => h_)) (below_size (by repeat (first | (with_reducible first | exact HB.out | apply bA | apply bN | apply bD | refine bS ?_ ‹_›) | exact HB.out)))); have n2_ := aM (blk_below (uB BK154.out) hb); have n3_ := aM (below_step (by repeat (first | (with_reducible first | exact HB.out | apply bA | apply bN | apply bD | refine bS ?_ ‹_›) | exact HB.out)) hb); clear HO157; clear BK154; clear HB; have HO157 := n0_; have HO160 := n1_; have BK154 := n2_; have HB := n3_; clear n0_ n1_ n2_ n3_; clear hb ho5) | ((with_reducible refine gate_dst (N := 3) rfl ?_); refine Kd.R_lit (Kd.int .i64) _ 3 ?hg (N := 3) ?hd (xs := ([0, 1] : List Int)) (inner := [.int .i64 0, .int .i64 1]) (ok := fun _ => True) (okp := fun _ => True) ?hr ?hp (fun _ hk => hk) trivial (Below.refl _ _) (Nat.le_refl _) (by simp) ?_; (case hd => rfl); (case hg => rfl); (case hr => first | (go_simp; done) | (go_simp; rfl)); (case hp => exact (Reps.one (show Kd.M (Kd.int .i64) _ _ _ 0 [.int .i64 0] from rfl) (Reps.one (show Kd.M (Kd.int .i64) _ _ _ 1 [.int .i64 1] from rfl) (Reps.none _ _)))); intro v162 w6 ho7 hb hg_ hnew_; clear hg_ hnew_; (first | rw [← Ny161.out] at ho7 | (simp only [Int.reduceToNat] at ho7; rw [← Ny161.out] at ho7)); have n0_ := aM (Kd.R_below (uR HO157.out) hb); have n1_ := aM (Kd.R_elder' (uR HO160.out) (Kd.R_base ho7) hb); have n2_ := aM (Kd.R_lower (Kd.R_new' (Kd.R_newM (M := fun k_ => (w.heap.size ≤ k_)) ho7 (below_size (by repeat (first | (with_reducible first | exact HB.out | apply bA | apply bN | apply bD | refine bS ?_ ‹_›) | exact HB.out))) (fun k_ h_ => h_)) (Kd.R_lt (uR HO160.out))) (below_size (by repeat (first | (with_reducible first | exact HB.out | apply bA | apply bN | apply bD | refine bS ?_ ‹_›) | exact HB.out)))); have n3_ := aM (blk_below (uB BK154.out) hb); have n4_ := aM (below_step (by repeat (first | (with_reducible first | exact HB.out | apply bA | apply bN | apply bD | refine bS ?_ ‹_›) | exact HB.out)) hb); clear HO157; clear HO160; clear BK154; clear HB; have HO157 := n0_; have HO160 := n1_; have HO163 := n2_; have BK154 := n3_; have HB := n4_; clear n0_ n1_ n2_ n3_ n4_; clear hb ho7; obtain ⟨Ao8, co8, eo8⟩ := Kd.R_slice HO160.out; subst eo8; obtain ⟨Ao9, co9, eo9⟩ := Kd.R_slice HO163.out; subst eo9) | ((with_reducible refine gate_dst (N := 4) rfl ?_); refine Kd.N_lit (Kd.slice 3 (Kd.int .i64)) _ 38 ?hg (N' := 4) ?hd (xs := ([y158, y161] : List (List Int))) (inner := [.slice Ao8 y158.length co8, .slice Ao9 y161.length co9]) (ok := (fun k_ => (w.heap.size ≤ k_) ∧ some k_ ≠ (v156 : Value).ownBlock ∧ k_ ≠ gb154)) (okp := (fun k_ => (w.heap.size ≤ k_) ∧ some k_ ≠ (v156 : Value).ownBlock ∧ k_ ≠ gb154)) ?hr ?hp (fun _ hk => hk) ((show ∀ k_, w6.heap.size ≤ k_ → (fun k_ => (w.heap.size ≤ k_) ∧ some k_ ≠ (v156 : Value).ownBlock ∧ k_ ≠ gb154) k_ from fun k_ hk => ⟨(Nat.le_trans (below_size (by repeat (first | (with_reducible first | exact HB.out | apply bA | apply bN | apply bD | refine bS ?_ ‹_›) | exact HB.out))) hk), Kd.fresh' (Kd.R_lt (uR HO157.out)) k_ hk, Kd.freshB (uB BK154.out) k_ hk⟩) _ (Nat.le_refl _)) (Below.refl _ _) (Nat.le_refl _) (by simp) ?_; (case hd => rfl); (case hg => rfl); (case hr => first | (go_simp; done) | (go_simp; rfl)); (case hp => exact (Reps.one (show Kd.FK (Kd.slice 3 (Kd.int .i64)) _ _ y158 [.slice Ao8 y158.length co8] from (FK_of_R (Kd.R_mono (ok' := (fun k_ => (w.heap.size ≤ k_) ∧ some k_ ≠ (v156 : Value).ownBlock ∧ k_ ≠ gb154)) (Kd.R_types (Kd.R_apart' (HO160.out) (Kd.R_typed HO157.out) (by decide)) BK154.out (by decide)) (fun k_ hk => ⟨hk.1.1.1.1, ⟨hk.1.2, hk.2⟩⟩)))) (Reps.one (show Kd.FK (Kd.slice 3 (Kd.int .i64)) _ _ y161 [.slice Ao9 y161.length co9] from (FK_of_R (Kd.R_mono (ok' := (fun k_ => (w.heap.size ≤ k_) ∧ some k_ ≠ (v156 : Value).ownBlock ∧ k_ ≠ gb154)) (Kd.R_types (Kd.R_apart' (HO163.out) (Kd.R_typed HO157.out) (by decide)) BK154.out (by decide)) (fun k_ hk => ⟨hk.1.1.1.1, ⟨hk.1.2, hk.2⟩⟩)))) (Reps.none _ _)))); intro v165 w10 ho11 hb hg_ hnew_; clear hg_ hnew_; (first | rw [← Ny164.out] at ho11 | (simp only [Int.reduceToNat] at ho11; rw [← Ny164.out] at ho11)); have n0_ := aM (Kd.R_below (uR HO157.out) hb); have n1_ := aM (Kd.N_lower ho11 (below_size (by repeat (first | (with_reducible first | exact HB.out | apply bA | apply bN | apply bD | refine bS ?_ ‹_›) | exact HB.out)))); have n2_ := aM (blk_below (uB BK154.out) hb); have n3_ := aM (below_step (by repeat (first | (with_reducible first | exact HB.out | apply bA | apply bN | apply bD | refine bS ?_ ‹_›) | exact HB.out)) hb); clear HO157; clear BK154; clear HB; clear HO160; clear HO163; have HO157 := n0_; have HO166 := n1_; have BK154 := n2_; have HB := n3_; clear n0_ n1_ n2_ n3_; clear hb ho11; obtain ⟨Ao12, co12, eo12⟩ := Kd.N_slice HO166.out; subst eo12; obtain ⟨Ao13, co13, eo13⟩ := Kd.R_slice HO157.out; subst eo13; have hcz14_0 : w10.cell? ⟨gb154, 0, none⟩ = some (.int .i64 0) := (blk_cell BK154.out 0).trans rfl; have hcz14_1 : w10.cell? ⟨gb154, 1, none⟩ = some (.int .i64 0) := (blk_cell BK154.out 1).trans rfl; have hcz14_2 : w10.cell? ⟨gb154, 2, none⟩ = some (.slice none 0 0) := (blk_cell BK154.out 2).trans rfl; have hcz14_3 : w10.cell? ⟨gb154, 3, none⟩ = some (.slice none 0 0) := (blk_cell BK154.out 3).trans rfl; have hfz14_0 := blk_frozen BK154.out 0; have hfz14_1 := blk_frozen BK154.out 1; have hfz14_2 := blk_frozen BK154.out 2; have hfz14_3 := blk_frozen BK154.out 3))
 refine bodyPost_ret (results_cell_row rfl _ _ gb154 25 #[.int .i64 2, .int .i64 0, .slice Ao13 y155.length co13, .slice Ao12 y164.length co12] (0, 0) _ rfl (by (with_reducible repeat (first | refine kN ?_ | refine kD ?_ | refine kA ?_)); refine blk_put (cs := #[.int .i64 2, .int .i64 0, .slice Ao13 y155.length co13, .slice none 0 0]) ?_ 3 _ rfl; (with_reducible repeat (first | refine kN ?_ | refine kD ?_ | refine kA ?_)); refine blk_put (cs := #[.int .i64 2, .int .i64 0, .slice none 0 0, .slice none 0 0]) ?_ 2 _ rfl; (with_reducible repeat (first | refine kN ?_ | refine kD ?_ | refine kA ?_)); refine blk_put (cs := #[.int .i64 2, .int .i64 0, .slice none 0 0, .slice none 0 0]) ?_ 1 _ rfl; (with_reducible repeat (first | refine kN ?_ | refine kD ?_ | refine kA ?_)); refine blk_put (cs := #[.int .i64 0, .int .i64 0, .slice none 0 0, .slice none 0 0]) ?_ 0 _ rfl; (with_reducible repeat (first | refine kN ?_ | refine kD ?_ | refine kA ?_)); exact BK154.out) Try.underlying25 rfl (by kernel_rfl)) rfl ?_
 exact ⟨_, _, by first | rfl | (simp [errW_none, errW_some] <;> rfl) | (simp [*, errW_none, errW_some] <;> rfl), by (with_reducible repeat (first | apply Kd.R_alloc | apply Kd.R_drewN | apply Kd.R_drew)); exact Kd.R_mono (Kd.R_far (p := ⟨gb154, 3, none⟩) (Kd.R_far (p := ⟨gb154, 2, none⟩) (Kd.R_far (p := ⟨gb154, 1, none⟩) (Kd.R_far (p := ⟨gb154, 0, none⟩) (Kd.R_types HO157.out BK154.out (by decide)) (fun _ hk => hk.2) (.int .i64 2)) (fun _ hk => hk.2) (.int .i64 0)) (fun _ hk => hk.2) (.slice Ao13 y155.length co13)) (fun _ hk => hk.2) (.slice Ao12 y164.length co12)) (fun _ hk => hk.1.1), by (with_reducible repeat (first | apply Kd.N_alloc | apply Kd.N_drewN | apply Kd.N_drew)); exact Kd.N_mono (Kd.N_far (p := ⟨gb154, 3, none⟩) (Kd.N_far (p := ⟨gb154, 2, none⟩) (Kd.N_far (p := ⟨gb154, 1, none⟩) (Kd.N_far (p := ⟨gb154, 0, none⟩) (Kd.N_mono HO166.out (fun k_ hk => (⟨hk, hk.2.2⟩ : _ ∧ k_ ≠ gb154))) (fun _ hk => hk.2) (.int .i64 2)) (fun _ hk => hk.2) (.int .i64 0)) (fun _ hk => hk.2) (.slice Ao13 y155.length co13)) (fun _ hk => hk.2) (.slice Ao12 y164.length co12)) (fun _ hk => ⟨hk.1.1, hk.1.2.1⟩), by repeat (first | (with_reducible first | exact HB.out | apply bA | apply bN | apply bD | refine bS ?_ ‹_›) | exact HB.out)⟩
/-! ### semigrouplaw07_awake: function 16 -/
def semigrouplaw07_awake.f (k : Nat)  : Option (Bool) := (semigrouplaw07_odd.f).bind fun bt167 => ((dfa_Words.f k bt167.1 bt167.2.1 bt167.2.2.1 bt167.2.2.2 3).bind fun t175 => ((semigroupref01_Same.f k t175 (([(⟨#[97]⟩ : ByteArray), (⟨#[97, 98]⟩ : ByteArray), (⟨#[98, 97]⟩ : ByteArray)] : List ByteArray))).bind fun t181 => (some t181)))
theorem semigrouplaw07_awake.mono : ∀ k, LeO (semigrouplaw07_awake.f k ) (semigrouplaw07_awake.f (k + 1) ) := by
 intro  k
 unfold semigrouplaw07_awake.f
 repeat' first
  | (with_reducible exact dfa_Words.mono _ _ _ _ _ _)
  | (with_reducible exact semigroupref01_Same.mono _ _ _)
  | (with_reducible exact LeO.refl _)
  | (with_reducible exact LeO.none _)
  | (with_reducible refine LeO.ite ?_ ?_)
  | (with_reducible refine LeO.bind ?_ (fun _ => ?_))
  | exact dfa_Words.mono _ _ _ _ _ _
  | exact semigroupref01_Same.mono _ _ _
  | exact LeO.none _
  | refine LeO.ite ?_ ?_
  | refine LeO.bind ?_ (fun _ => ?_)
set_option maxHeartbeats 8000000 in
set_option maxRecDepth 100000 in
theorem semigrouplaw07_awake.calls (k : Nat)  (r : Bool) (w : World) (h : semigrouplaw07_awake.f k  = some r) :
 Calls Try.prog 16 #[] w fun e w' => e = .returned (.bool r) ∧ Below w.heap.size w w' := by
 have HB := aM (Below.refl w.heap.size w)
 have H : ((semigrouplaw07_odd.f).bind fun bt167 => ((dfa_Words.f k bt167.1 bt167.2.1 bt167.2.2.1 bt167.2.2.2 3).bind fun t175 => ((semigroupref01_Same.f k t175 (([(⟨#[97]⟩ : ByteArray), (⟨#[97, 98]⟩ : ByteArray), (⟨#[98, 97]⟩ : ByteArray)] : List ByteArray))).bind fun t181 => (some t181)))) = some r := h
 clear h
 replace H := Option.bind_eq_some_iff.mp H
 obtain ⟨⟨t167, t168, t169, t172⟩, A10, H⟩ := H
 replace H : ((dfa_Words.f k t167 t168 t169 t172 3).bind fun t175 => ((semigroupref01_Same.f k t175 (([(⟨#[97]⟩ : ByteArray), (⟨#[97, 98]⟩ : ByteArray), (⟨#[98, 97]⟩ : ByteArray)] : List ByteArray))).bind fun t181 => (some t181))) = some r := H
 have A1 := Aside0.mk A10
 clear A10
 replace H := Option.bind_eq_some_iff.mp H
 obtain ⟨t175, A20, H⟩ := H
 replace H : ((semigroupref01_Same.f k t175 (([(⟨#[97]⟩ : ByteArray), (⟨#[97, 98]⟩ : ByteArray), (⟨#[98, 97]⟩ : ByteArray)] : List ByteArray))).bind fun t181 => (some t181)) = some r := H
 have A2 := Aside0.mk A20
 clear A20
 obtain ⟨y178, hy178⟩ : ∃ y_ : List ByteArray, y_ = (([(⟨#[97]⟩ : ByteArray), (⟨#[97, 98]⟩ : ByteArray), (⟨#[98, 97]⟩ : ByteArray)] : List ByteArray)) := ⟨_, rfl⟩
 replace H : ((semigroupref01_Same.f k t175 y178).bind fun t181 => (some t181)) = some r := by first | (rw [hy178]; with_reducible exact H) | (have H2_ := (Option.bind_some _ _).symm.trans H; rw [hy178]; with_reducible exact H2_) | (have H2_ := (Option.bind_some _ _).symm.trans H; with_reducible exact H2_) | with_reducible exact H | (rw [hy178]; exact H) | exact H
 have Ny178 := Aside0.mk hy178
 clear hy178
 replace H := Option.bind_eq_some_iff.mp H
 obtain ⟨t181, A30, H⟩ := H
 replace H : (some t181) = some r := H
 have A3 := Aside0.mk A30
 clear A30
 obtain rfl := Option.some.inj H
 go_enter Try.func16, Try.ntmps16
 go_wp2_with (first | ((with_reducible refine gate_callee (f := 42) rfl ?_); refine goesL_ (some 1) rfl rfl Try.func42 (by kernel_rfl) rfl #[] rfl (by (try simp only [List.map_toArray, List.map_cons, List.map_nil]); first | done | rfl | (simp only [List.length_drop, List.length_take]; rfl)) ?_; (with_reducible refine (semigrouplaw07_odd.calls  t167 t168 t169 t172 _ A1.out).mono ?_); rintro e w4 ⟨v170, v173, rfl, ho0, ho1, hb⟩; refine ⟨_, rfl, ?_⟩; have n0_ := aM (Kd.R_lower (Kd.R_mono (ok' := fun k_ => True) ho0 (fun _ hk_ => trivial)) (below_size (by repeat (first | (with_reducible first | exact HB.out | apply bA | apply bN | apply bD) | exact HB.out)))); have n1_ := aM (Kd.N_lower (Kd.N_mono (ok' := fun k_ => some k_ ≠ (v170 : Value).ownBlock) ho1 (fun k_ hk_ => hk_.2)) (below_size (by repeat (first | (with_reducible first | exact HB.out | apply bA | apply bN | apply bD) | exact HB.out)))); have n2_ := aM (below_step (by repeat (first | (with_reducible first | exact HB.out | apply bA | apply bN | apply bD) | exact HB.out)) hb); clear HB; have HO171 := n0_; have HO174 := n1_; have HB := n2_; clear n0_ n1_ n2_; (try clear hb); (try clear hb2); (try clear hk); (try clear hi); (try clear ho0); (try clear ho1); obtain ⟨Ao5, co5, eo5⟩ := Kd.R_slice HO171.out; subst eo5; obtain ⟨Ao6, co6, eo6⟩ := Kd.N_slice HO174.out; subst eo6) | ((with_reducible refine gate_callee (f := 18) rfl ?_); refine goesL_ (some 2) rfl rfl Try.func18 (by kernel_rfl) rfl #[.agg #[.int .i64 t167, .int .i64 t168, .slice Ao5 t169.length co5, .slice Ao6 t172.length co6], .int .i64 3] rfl (by (try simp only [List.map_toArray, List.map_cons, List.map_nil]); first | done | rfl | (simp only [List.length_drop, List.length_take]; rfl)) ?_; (with_reducible refine (dfa_Words.calls k t167 t168 _ _ t169 _ _ t172 3 t175 _ ?side1 ?side2 ?side3 ?side4 A2.out).mono ?_); (case side1 => repeat (first | exact (Kd.R_reads' HO171.out).2.2 | (with_reducible refine Kd.C_alloc ?_ _) | (with_reducible refine Kd.C_drewN ?_ _) | (with_reducible refine Kd.C_drew ?_))); (case side2 => exact (Kd.R_reads' HO171.out).2.1); (case side3 => repeat (first | exact (Kd.N_reads' HO174.out).2.2 | (with_reducible refine Kd.C_alloc ?_ _) | (with_reducible refine Kd.C_drewN ?_ _) | (with_reducible refine Kd.C_drew ?_))); (case side4 => exact (Kd.N_reads' HO174.out).2.1); rintro e w7 ⟨v176, rfl, ho0, hb⟩; refine ⟨_, rfl, ?_⟩; have n0_ := aM (Kd.R_below (uR HO171.out) hb); have n1_ := aM (Kd.N_elder' (by (with_reducible repeat (first | apply Kd.N_alloc | apply Kd.N_drewN | apply Kd.N_drew)); exact HO174.out) (Kd.R_base ho0) hb); have n2_ := aM (Kd.R_lower ho0 (below_size (by repeat (first | (with_reducible first | exact HB.out | apply bA | apply bN | apply bD) | exact HB.out)))); have n3_ := aM (below_step (by repeat (first | (with_reducible first | exact HB.out | apply bA | apply bN | apply bD) | exact HB.out)) hb); clear HO171; clear HO174; clear HB; have HO171 := n0_; have HO174 := n1_; have HO177 := n2_; have HB := n3_; clear n0_ n1_ n2_ n3_; (try clear hb); (try clear hb2); (try clear hk); (try clear hi); (try clear ho0)) | ((with_reducible refine gate_dst (N := 3) rfl ?_); refine Kd.R_lit Kd.string _ 9 ?hg (N := 3) ?hd (xs := ([(⟨#[97]⟩ : ByteArray), (⟨#[97, 98]⟩ : ByteArray), (⟨#[98, 97]⟩ : ByteArray)] : List ByteArray)) (inner := [.string (⟨#[97]⟩ : ByteArray), .string (⟨#[97, 98]⟩ : ByteArray), .string (⟨#[98, 97]⟩ : ByteArray)]) (ok := fun _ => True) (okp := fun _ => True) ?hr ?hp (fun _ hk => hk) trivial (Below.refl _ _) (Nat.le_refl _) (by simp) ?_; (case hd => rfl); (case hg => rfl); (case hr => first | (go_simp; done) | (go_simp; rfl)); (case hp => exact (Reps.one (show Kd.M Kd.string _ _ _ (⟨#[97]⟩ : ByteArray) [.string (⟨#[97]⟩ : ByteArray)] from rfl) (Reps.one (show Kd.M Kd.string _ _ _ (⟨#[97, 98]⟩ : ByteArray) [.string (⟨#[97, 98]⟩ : ByteArray)] from rfl) (Reps.one (show Kd.M Kd.string _ _ _ (⟨#[98, 97]⟩ : ByteArray) [.string (⟨#[98, 97]⟩ : ByteArray)] from rfl) (Reps.none _ _))))); intro v179 w8 ho9 hb hg_ hnew_; clear hg_ hnew_; (first | rw [← Ny178.out] at ho9 | (simp only [Int.reduceToNat] at ho9; rw [← Ny178.out] at ho9)); have n0_ := aM (Kd.R_below (uR HO171.out) hb); have n1_ := aM (Kd.N_elder' (by (with_reducible repeat (first | apply Kd.N_alloc | apply Kd.N_drewN | apply Kd.N_drew)); exact HO174.out) (Kd.R_base ho9) hb); have n2_ := aM (Kd.R_elder' (uR HO177.out) (Kd.R_base ho9) hb); have n3_ := aM (Kd.R_lower (Kd.R_new' ho9 (Kd.R_lt (uR HO177.out))) (below_size (by repeat (first | (with_reducible first | exact HB.out | apply bA | apply bN | apply bD) | exact HB.out)))); have n4_ := aM (below_step (by repeat (first | (with_reducible first | exact HB.out | apply bA | apply bN | apply bD) | exact HB.out)) hb); clear HO171; clear HO174; clear HO177; clear HB; have HO171 := n0_; have HO174 := n1_; have HO177 := n2_; have HO180 := n3_; have HB := n4_; clear n0_ n1_ n2_ n3_ n4_; clear hb ho9; obtain ⟨Ao10, co10, eo10⟩ := Kd.R_slice HO177.out; subst eo10; obtain ⟨Ao11, co11, eo11⟩ := Kd.R_slice HO180.out; subst eo11) | ((with_reducible refine gate_callee (f := 19) rfl ?_); refine goesL_ (some 4) rfl rfl Try.func19 (by kernel_rfl) rfl #[.slice Ao10 t175.length co10, .slice Ao11 y178.length co11] rfl (by (try simp only [List.map_toArray, List.map_cons, List.map_nil]); first | done | rfl | (simp only [List.length_drop, List.length_take]; rfl)) ?_; (with_reducible refine (semigroupref01_Same.calls k _ _ t175 _ _ y178 t181 _ ?side1 ?side2 ?side3 ?side4 A3.out).mono ?_); (case side1 => repeat (first | exact (Kd.R_reads' HO177.out).2.2 | (with_reducible refine Kd.C_alloc ?_ _) | (with_reducible refine Kd.C_drewN ?_ _) | (with_reducible refine Kd.C_drew ?_))); (case side2 => exact (Kd.R_reads' HO177.out).2.1); (case side3 => repeat (first | exact (Kd.R_reads' HO180.out).2.2 | (with_reducible refine Kd.C_alloc ?_ _) | (with_reducible refine Kd.C_drewN ?_ _) | (with_reducible refine Kd.C_drew ?_))); (case side4 => exact (Kd.R_reads' HO180.out).2.1); rintro e w' ⟨rfl, ⟨nd, rfl⟩⟩; refine ⟨_, rfl, ?_⟩))
 go_ret
 exact ⟨by first | rfl | (simp [errW_none, errW_some] <;> rfl) | (simp [*, errW_none, errW_some] <;> rfl), by repeat (first | (with_reducible first | exact HB.out | apply bA | apply bN | apply bD) | exact HB.out)⟩
/-! ### semigroupref01_MayLetters: function 41 -/
def semigroupref01_MayLetters.f (a0 : Int) : Option (Bool) := if a0 ≥ 1 then (some (decide (a0 ≤ 6))) else (some false)
set_option maxHeartbeats 8000000 in
set_option maxRecDepth 100000 in
theorem semigroupref01_MayLetters.calls (a0 : Int) (r : Bool) (w : World) (h : semigroupref01_MayLetters.f a0 = some r) :
 Calls Try.prog 41 #[.int .i64 a0] w fun e w' => e = .returned (.bool r) ∧ Drawn0 w w' := by
 have H : (if a0 ≥ 1 then (some (decide (a0 ≤ 6))) else (some false)) = some r := h
 clear h
 by_cases c2 : a0 ≥ 1
 (focus
 rw [if_pos c2] at H
 have c2b0 : decide (1 ≤ a0) = true := decide_eq_true c2
 clear c2
 obtain rfl := Option.some.inj H
 go_enter Try.func41, Try.ntmps41
 go_wp2
 go_ret
 exact ⟨by first | rfl | (simp; done) | (simp [*]; done), by repeat (first | exact Drawn0.refl _ | apply Drawn0.step)⟩
 )
 (focus
 rw [if_neg c2] at H
 have c2b0 : decide (1 ≤ a0) = false := decide_eq_false c2
 clear c2
 obtain rfl := Option.some.inj H
 go_enter Try.func41, Try.ntmps41
 go_wp2
 go_ret
 exact ⟨by first | rfl | (simp; done) | (simp [*]; done), by repeat (first | exact Drawn0.refl _ | apply Drawn0.step)⟩
 )
end Go.Proofs.Ytpjbmgoagehjkaa.PDfaProducts
