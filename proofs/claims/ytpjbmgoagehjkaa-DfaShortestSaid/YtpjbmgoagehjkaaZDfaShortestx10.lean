import Derived.Test.YtpjbmgoagehjkaaZDfaShortestx0
import Derived.Test.YtpjbmgoagehjkaaZDfaShortestx4
import Derived.Test.YtpjbmgoagehjkaaZDfaShortestx5
import Derived.Test.YtpjbmgoagehjkaaZDfaShortestx6
import Derived.Test.YtpjbmgoagehjkaaZDfaShortestx8
import Derived.Test.YtpjbmgoagehjkaaZDfaShortestx9
namespace Go.Proofs.Ytpjbmgoagehjkaa.PDfaShortest
open Go.RowKit Go.Proofs.YtpjbmgoagehjkaaH Go.Proofs.YtpjbmgoagehjkaaW.PrintWords Go.Proofs.YtpjbmgoagehjkaaW.PrintLast Go.Proofs.YtpjbmgoagehjkaaW.PrintMore
attribute [local go_sem] max2_int min2_int max_two min_two max_three min_three max_four min_four   -- for this text's walks alone
set_option linter.unusedVariables false
set_option linter.unusedSimpArgs false
/-! ### semigroupref07_Shortest: function 36 -/
def semigroupref07_Shortest.l0 : Nat → List ByteArray → List Int → Int → Int → Int → Int → List Bool → List (List Int) → Option (ByteArray × Bool)
 | 0, _, _, _, _, _, _, _, _ => none
 | k + 1, x5, x13, x14, x15, x287000, x287001, x287002, x287003 => if x15 < x14 then (if 0 ≤ x15 then (if x15 < (x13.length : Int) then (if 0 ≤ (rd x13 x15) then (if (rd x13 x15) < (x287002.length : Int) then (if rdOf false x287002 (rd x13 x15) = true then (if x15 < (x5.length : Int) then (some (rdOf ByteArray.empty x5 x15, true)) else (none)) else (semigroupref07_Shortest.l0 k x5 x13 x14 (wrap64 (x15 + 1)) x287000 x287001 x287002 x287003)) else (none)) else (none)) else (none)) else (none)) else (some ((⟨#[]⟩ : ByteArray), false))
def semigroupref07_Shortest.f (k : Nat) (a0_0 : Int) (a0_1 : Int) (l0_2 : List Bool) (l0_3 : List (List Int)) : Option (ByteArray × Bool) := (semigroupref07_Access.f k a0_0 a0_1 l0_2 l0_3).bind fun bt287 => (semigroupref07_Shortest.l0 k bt287.2 bt287.1 (bt287.1.length : Int) 0 a0_0 a0_1 l0_2 l0_3)
theorem semigroupref07_Shortest.mono_l : ∀ k, (∀ y0 y1 y2 y3 y4 y5 y6 y7, LeO (semigroupref07_Shortest.l0 k y0 y1 y2 y3 y4 y5 y6 y7) (semigroupref07_Shortest.l0 (k + 1) y0 y1 y2 y3 y4 y5 y6 y7))
 | 0 => fun _ _ _ _ _ _ _ _ r h => by simp [semigroupref07_Shortest.l0] at h
 | k + 1 => by
  have ih0 := semigroupref07_Shortest.mono_l k
  (focus
  intro y0 y1 y2 y3 y4 y5 y6 y7
  unfold semigroupref07_Shortest.l0
  repeat' first
  | (with_reducible exact ih0 _ _ _ _ _ _ _ _)
  | (with_reducible exact semigroupref07_Access.mono _ _ _ _ _)
  | (with_reducible exact LeO.refl _)
  | (with_reducible exact LeO.none _)
  | (with_reducible refine LeO.ite ?_ ?_)
  | (with_reducible refine LeO.bind ?_ (fun _ => ?_))
  | exact ih0 _ _ _ _ _ _ _ _
  | exact semigroupref07_Access.mono _ _ _ _ _
  | exact LeO.none _
  | refine LeO.ite ?_ ?_
  | refine LeO.bind ?_ (fun _ => ?_)
  )
theorem semigroupref07_Shortest.mono : ∀ a0 a1 a2 a3 k, LeO (semigroupref07_Shortest.f k a0 a1 a2 a3) (semigroupref07_Shortest.f (k + 1) a0 a1 a2 a3) := by
 intro a0 a1 a2 a3 k
 have ih0 := semigroupref07_Shortest.mono_l k
 unfold semigroupref07_Shortest.f
 repeat' first
  | (with_reducible exact ih0 _ _ _ _ _ _ _ _)
  | (with_reducible exact semigroupref07_Access.mono _ _ _ _ _)
  | (with_reducible exact LeO.refl _)
  | (with_reducible exact LeO.none _)
  | (with_reducible refine LeO.ite ?_ ?_)
  | (with_reducible refine LeO.bind ?_ (fun _ => ?_))
  | exact ih0 _ _ _ _ _ _ _ _
  | exact semigroupref07_Access.mono _ _ _ _ _
  | exact LeO.none _
  | refine LeO.ite ?_ ?_
  | refine LeO.bind ?_ (fun _ => ?_)
set_option maxHeartbeats 8000000 in
set_option maxRecDepth 100000 in
theorem semigroupref07_Shortest.calls (k : Nat) (a0_0 : Int) (a0_1 : Int) (A0_2 : Option Addr) (c0_2 : Nat) (l0_2 : List Bool) (A0_3 : Option Addr) (c0_3 : Nat) (l0_3 : List (List Int)) (r1 : ByteArray) (r2 : Bool) (w : World) (hr0_2 : Kd.C Kd.bool w A0_2 l0_2.length l0_2) (hc0_2 : l0_2.length ≤ c0_2) (hr0_3 : Kd.C (Kd.slice 3 (Kd.int .i64)) w A0_3 l0_3.length l0_3) (hc0_3 : l0_3.length ≤ c0_3) (h : semigroupref07_Shortest.f k a0_0 a0_1 l0_2 l0_3 = some (r1, r2)) :
 Calls Try.prog 36 #[.agg #[.int .i64 a0_0, .int .i64 a0_1, .slice A0_2 l0_2.length c0_2, .slice A0_3 l0_3.length c0_3]] w fun e w' => e = .returned (.tuple #[.string r1, .bool r2]) ∧ Below w.heap.size w w' := by
 have hu25 := Try.underlying25
 have HR0_2 := Aside0.mk hr0_2
 have HC0_2 := Aside0.mk hc0_2
 clear hr0_2 hc0_2
 have HR0_3 := Aside0.mk hr0_3
 have HC0_3 := Aside0.mk hc0_3
 clear hr0_3 hc0_3
 have HB := Aside0.mk (Below.refl w.heap.size w)
 have H : ((semigroupref07_Access.f k a0_0 a0_1 l0_2 l0_3).bind fun bt287 => (semigroupref07_Shortest.l0 k bt287.2 bt287.1 (bt287.1.length : Int) 0 a0_0 a0_1 l0_2 l0_3)) = some (r1, r2) := h
 clear h
 replace H := Option.bind_eq_some_iff.mp H
 obtain ⟨⟨t287, t290⟩, A20, H⟩ := H
 replace H : (semigroupref07_Shortest.l0 k t290 t287 (t287.length : Int) 0 a0_0 a0_1 l0_2 l0_3) = some (r1, r2) := H
 have A2 := Aside0.mk A20
 clear A20
 have H' := Aside0.mk H
 clear H
 go_enter Try.func36, Try.ntmps36
 go_wp2_with (first | ((with_reducible refine gate_dst (N := 1) rfl ?_); refine box_event ?hg (N := 1) ?hd (cs := #[.int .i64 a0_0, .int .i64 a0_1, .slice A0_2 l0_2.length c0_2, .slice A0_3 l0_3.length c0_3]) (t := 25) ?hr ?_; (case hd => rfl); (case hg => rfl); (case hr => first | (go_simp; done) | (go_simp; rfl)); intro gb286 hg w3 hbox hb; have n0_ := Aside0.mk (below_step (by repeat (first | (with_reducible first | exact HB.out | apply below_alloc | apply pw_below_drewN | apply below_drew1) | exact HB.out)) hb); have n1_ := Aside0.mk (hbox); have n2_ := Aside0.mk ((by rw [hg]; exact (below_size (by repeat (first | (with_reducible first | exact HB.out | apply below_alloc | apply pw_below_drewN | apply below_drew1) | exact HB.out))) : w.heap.size ≤ gb286)); have n3_ := Aside0.mk ((by rw [hg]; exact (below_size (by repeat (first | (with_reducible first | exact HB.out | apply below_alloc | apply pw_below_drewN | apply below_drew1) | exact HB.out))) : w.heap.size ≤ gb286)); clear HB; have HB := n0_; have BK286 := n1_; have GW286 := n2_; have GE286 := n3_; clear n0_ n1_ n2_ n3_; clear hb hbox hg; have hcz4_0 : w3.cell? ⟨gb286, 0, none⟩ = some (.int .i64 a0_0) := (blk_cell BK286.out 0).trans rfl; have hcz4_1 : w3.cell? ⟨gb286, 1, none⟩ = some (.int .i64 a0_1) := (blk_cell BK286.out 1).trans rfl; have hcz4_2 : w3.cell? ⟨gb286, 2, none⟩ = some (.slice A0_2 l0_2.length c0_2) := (blk_cell BK286.out 2).trans rfl; have hcz4_3 : w3.cell? ⟨gb286, 3, none⟩ = some (.slice A0_3 l0_3.length c0_3) := (blk_cell BK286.out 3).trans rfl; have hfz4_0 := blk_frozen BK286.out 0; have hfz4_1 := blk_frozen BK286.out 1; have hfz4_2 := blk_frozen BK286.out 2; have hfz4_3 := blk_frozen BK286.out 3) | ((with_reducible refine gate_callee (f := 49) rfl ?_); refine goesL_ (some 10) rfl rfl Try.func49 (by kernel_rfl) rfl #[.agg #[.int .i64 a0_0, .int .i64 a0_1, .slice A0_2 l0_2.length c0_2, .slice A0_3 l0_3.length c0_3]] rfl (by (try simp only [List.map_toArray, List.map_cons, List.map_nil]); first | done | rfl | (simp only [List.length_drop, List.length_take]; rfl)) ?_; (with_reducible refine (semigroupref07_Access.calls k a0_0 a0_1 _ _ l0_2 _ _ l0_3 t287 t290 _ ?side1 ?side2 ?side3 ?side4 A2.out).mono ?_); (case side1 => repeat (first | exact (Kd.C_below HR0_2.out HB.out) | (with_reducible refine Kd.C_alloc ?_ _) | (with_reducible refine Kd.C_drewN ?_ _) | (with_reducible refine Kd.C_drew ?_))); (case side2 => exact HC0_2.out); (case side3 => repeat (first | exact (Kd.C_below HR0_3.out HB.out) | (with_reducible refine Kd.C_alloc ?_ _) | (with_reducible refine Kd.C_drewN ?_ _) | (with_reducible refine Kd.C_drew ?_))); (case side4 => exact HC0_3.out); rintro e w5 ⟨v288, v291, rfl, ho0, ho1, hb⟩; refine ⟨_, rfl, ?_⟩; have n0_ := Aside0.mk (Kd.R_lower ho0 (below_size (by repeat (first | (with_reducible first | exact HB.out | apply below_alloc | apply pw_below_drewN | apply below_drew1 | refine below_set ?_ GE286.out) | exact HB.out)))); have n1_ := Aside0.mk (Kd.R_lower ho1 (below_size (by repeat (first | (with_reducible first | exact HB.out | apply below_alloc | apply pw_below_drewN | apply below_drew1 | refine below_set ?_ GE286.out) | exact HB.out)))); have n2_ := Aside0.mk (blk_below (g := gb286) (o := .cells #[.int .i64 a0_0, .int .i64 a0_1, .slice A0_2 l0_2.length c0_2, .slice A0_3 l0_3.length c0_3] 25 (0, 0)) (uB BK286.out) hb); have n3_ := Aside0.mk (below_step (by repeat (first | (with_reducible first | exact HB.out | apply below_alloc | apply pw_below_drewN | apply below_drew1 | refine below_set ?_ GE286.out) | exact HB.out)) hb); clear BK286; clear HB; have HO289 := n0_; have HO292 := n1_; have BK286 := n2_; have HB := n3_; clear n0_ n1_ n2_ n3_; (try clear hb); (try clear hb2); (try clear hk); (try clear hi); (try clear ho0); (try clear ho1); obtain ⟨Ao6, co6, eo6⟩ := Kd.R_slice HO289.out; subst eo6))
 go_loopg [15] k (fun kq v15 w' => ∃ (x15_1 : Int), v15 = .int .i64 x15_1 ∧ Aside0 (semigroupref07_Shortest.l0 kq t290 t287 (t287.length : Int) x15_1 a0_0 a0_1 l0_2 l0_3 = some (r1, r2)) ∧ Aside0 (kq ≤ k) ∧ Aside0 (Kd.R Kd.string 9 w' w.heap.size (fun _ => True) v291 t290) ∧ Aside0 (Kd.R (Kd.int .i64) 3 w' w.heap.size (fun _ => True) (.slice Ao6 t287.length co6) t287) ∧ Aside0 (w'.heap[gb286]? = some (.cells #[.int .i64 a0_0, .int .i64 a0_1, (.slice A0_2 l0_2.length c0_2), (.slice A0_3 l0_3.length c0_3)] 25 (0, 0))) ∧ Aside0 (Below w.heap.size w w'))
 case atStart => exact ⟨(0), (by first | rfl | (simp; done) | (simp [*]; done)), H', ⟨Nat.le_refl _⟩, ⟨by (with_reducible repeat (first | apply Kd.R_alloc | apply Kd.R_drewN | apply Kd.R_drew)); exact HO292.out⟩, ⟨by (with_reducible repeat (first | apply Kd.R_alloc | apply Kd.R_drewN | apply Kd.R_drew)); exact HO289.out⟩, ⟨by (with_reducible repeat (first | refine blk_drewN ?_ _ | refine blk_drew ?_ | refine blk_alloc ?_ _)); exact BK286.out⟩, ⟨by repeat (first | (with_reducible first | exact HB.out | apply below_alloc | apply pw_below_drewN | apply below_drew1 | refine below_set ?_ GE286.out) | exact HB.out)⟩⟩
 case round =>
  clear H'
  try clear p2
  try clear c3
  try clear c4
  try clear hcz4_0
  try clear hcz4_1
  try clear hcz4_2
  try clear hcz4_3
  try clear hfz4_0
  try clear hfz4_1
  try clear hfz4_2
  try clear hfz4_3
  obtain ⟨x15_1, rfl, HA, HK1, HO_5, HO_13, BK286, HB⟩ := hrel
  cases gk with
  | zero => exact absurd HA.out (by simp [semigroupref07_Shortest.l0])
  | succ k1 =>
   have H := HA.out
   clear HA
   simp only [semigroupref07_Shortest.l0] at H
   by_cases c7 : x15_1 < (t287.length : Int)
   (focus
   rw [if_pos c7] at H
   have c7b0 : decide (x15_1 < (t287.length : Int)) = true := decide_eq_true c7
   clear c7
   by_cases c8 : 0 ≤ x15_1
   (focus
   rw [if_pos c8] at H
   have c8b0 : decide (0 ≤ x15_1) = true := decide_eq_true c8
   clear c8
   by_cases c9 : x15_1 < (t287.length : Int)
   (focus
   rw [if_pos c9] at H
   have c9b0 : decide (x15_1 < (t287.length : Int)) = true := decide_eq_true c9
   clear c9
   by_cases c10 : 0 ≤ (rd t287 x15_1)
   (focus
   rw [if_pos c10] at H
   have c10b0 : decide (0 ≤ (rd t287 x15_1)) = true := decide_eq_true c10
   clear c10
   by_cases c11 : (rd t287 x15_1) < (l0_2.length : Int)
   (focus
   rw [if_pos c11] at H
   have c11b0 : decide ((rd t287 x15_1) < (l0_2.length : Int)) = true := decide_eq_true c11
   clear c11
   obtain ⟨bq12, hbq12⟩ : ∃ b_ : Bool, b_ = (rdOf false l0_2 (rd t287 x15_1)) := ⟨_, rfl⟩
   replace H : (if bq12 = true then (if x15_1 < (t290.length : Int) then (some (rdOf ByteArray.empty t290 x15_1, true)) else (none)) else (semigroupref07_Shortest.l0 k1 t290 t287 (t287.length : Int) (wrap64 (x15_1 + 1)) a0_0 a0_1 l0_2 l0_3)) = some (r1, r2) := by rw [← hbq12] at H; exact H
   have Nbq12 := Aside0.mk hbq12
   clear hbq12
   by_cases c13 : bq12 = true
   (focus
   subst c13
   have H1 : (if x15_1 < (t290.length : Int) then (some (rdOf ByteArray.empty t290 x15_1, true)) else (none)) = some (r1, r2) := by rw [if_pos rfl] at H; exact H
   clear H
   have H := H1
   clear H1
   by_cases c14 : x15_1 < (t290.length : Int)
   (focus
   rw [if_pos c14] at H
   have c14b0 : decide (x15_1 < (t290.length : Int)) = true := decide_eq_true c14
   clear c14
   simp only [Option.some.injEq, Prod.mk.injEq] at H
   obtain ⟨rfl, rfl⟩ := H
   have p293 : 0 ≤ (x15_1 : Int) := of_decide_eq_true (by first | (with_reducible assumption) | assumption)
   have q293 : x15_1 < (t287.length : Int) := of_decide_eq_true (by first | (with_reducible assumption) | assumption)
   obtain ⟨ad293, e293, hx293_0⟩ := Kd.at_int (Kd.R_reads' HO_13.out).2.2 x15_1 p293 q293
   cases e293
   replace p293 := eq_true p293
   replace q293 := eq_true q293
   have hcz15_0 : wr.cell? ⟨gb286, 0, none⟩ = some (.int .i64 a0_0) := (blk_cell BK286.out 0).trans rfl
   have hcz15_1 : wr.cell? ⟨gb286, 1, none⟩ = some (.int .i64 a0_1) := (blk_cell BK286.out 1).trans rfl
   have hcz15_2 : wr.cell? ⟨gb286, 2, none⟩ = some (.slice A0_2 l0_2.length c0_2) := (blk_cell BK286.out 2).trans rfl
   have hcz15_3 : wr.cell? ⟨gb286, 3, none⟩ = some (.slice A0_3 l0_3.length c0_3) := (blk_cell BK286.out 3).trans rfl
   have hfz15_0 := blk_frozen BK286.out 0
   have hfz15_1 := blk_frozen BK286.out 1
   have hfz15_2 := blk_frozen BK286.out 2
   have hfz15_3 := blk_frozen BK286.out 3
   have p294 : 0 ≤ ((rd t287 x15_1) : Int) := of_decide_eq_true (by first | (with_reducible assumption) | assumption)
   have q294 : (rd t287 x15_1) < (l0_2.length : Int) := of_decide_eq_true (by first | (with_reducible assumption) | assumption)
   obtain ⟨ad294, e294, hx294_0⟩ := Kd.at_bool HR0_2.out (rd t287 x15_1) p294 q294
   (try rw [← Nbq12.out] at hx294_0)
   cases e294
   (try replace hx294_0 := (HB.out.cell (World.block_lt_of_cell? w _ hx294_0)).trans hx294_0)
   replace p294 := eq_true p294
   replace q294 := eq_true q294
   obtain ⟨Ao16, co16, eo16⟩ := Kd.R_slice HO_5.out
   subst eo16
   have p295 : 0 ≤ (x15_1 : Int) := of_decide_eq_true (by first | (with_reducible assumption) | assumption)
   have q295 : x15_1 < (t290.length : Int) := of_decide_eq_true (by first | (with_reducible assumption) | assumption)
   obtain ⟨ad295, e295, hx295_0⟩ := Kd.at_string (Kd.R_reads' HO_5.out).2.2 x15_1 p295 q295
   cases e295
   replace p295 := eq_true p295
   replace q295 := eq_true q295
   go_wp2
   go_ret2
   exact ⟨by first | rfl | (simp [errW_none, errW_some] <;> rfl) | (simp [*, errW_none, errW_some] <;> rfl), by repeat (first | (with_reducible first | exact HB.out | apply below_alloc | apply pw_below_drewN | apply below_drew1 | refine below_set ?_ GE286.out) | exact HB.out)⟩
   )
   (focus
   rw [if_neg c14] at H
   exact absurd H (by simp)
   )
   )
   (focus
   replace c13 := Bool.eq_false_iff.mpr c13
   subst c13
   have H1 : (semigroupref07_Shortest.l0 k1 t290 t287 (t287.length : Int) (wrap64 (x15_1 + 1)) a0_0 a0_1 l0_2 l0_3) = some (r1, r2) := by rw [if_neg (show ¬ (false = true) by decide)] at H; exact H
   clear H
   have H := H1
   clear H1
   have H' := Aside0.mk H
   clear H
   have p293 : 0 ≤ (x15_1 : Int) := of_decide_eq_true (by first | (with_reducible assumption) | assumption)
   have q293 : x15_1 < (t287.length : Int) := of_decide_eq_true (by first | (with_reducible assumption) | assumption)
   obtain ⟨ad293, e293, hx293_0⟩ := Kd.at_int (Kd.R_reads' HO_13.out).2.2 x15_1 p293 q293
   cases e293
   replace p293 := eq_true p293
   replace q293 := eq_true q293
   have hcz17_0 : wr.cell? ⟨gb286, 0, none⟩ = some (.int .i64 a0_0) := (blk_cell BK286.out 0).trans rfl
   have hcz17_1 : wr.cell? ⟨gb286, 1, none⟩ = some (.int .i64 a0_1) := (blk_cell BK286.out 1).trans rfl
   have hcz17_2 : wr.cell? ⟨gb286, 2, none⟩ = some (.slice A0_2 l0_2.length c0_2) := (blk_cell BK286.out 2).trans rfl
   have hcz17_3 : wr.cell? ⟨gb286, 3, none⟩ = some (.slice A0_3 l0_3.length c0_3) := (blk_cell BK286.out 3).trans rfl
   have hfz17_0 := blk_frozen BK286.out 0
   have hfz17_1 := blk_frozen BK286.out 1
   have hfz17_2 := blk_frozen BK286.out 2
   have hfz17_3 := blk_frozen BK286.out 3
   have p294 : 0 ≤ ((rd t287 x15_1) : Int) := of_decide_eq_true (by first | (with_reducible assumption) | assumption)
   have q294 : (rd t287 x15_1) < (l0_2.length : Int) := of_decide_eq_true (by first | (with_reducible assumption) | assumption)
   obtain ⟨ad294, e294, hx294_0⟩ := Kd.at_bool HR0_2.out (rd t287 x15_1) p294 q294
   (try rw [← Nbq12.out] at hx294_0)
   cases e294
   (try replace hx294_0 := (HB.out.cell (World.block_lt_of_cell? w _ hx294_0)).trans hx294_0)
   replace p294 := eq_true p294
   replace q294 := eq_true q294
   go_wp2
   go_roundg k1
   case measure => have := HK1.out; omega
   case rel => exact ⟨(wrap64 (x15_1 + 1)), (by first | rfl | (simp; done) | (simp [*]; done)), H', ⟨by have := HK1.out; omega⟩, ⟨by (with_reducible repeat (first | apply Kd.R_alloc | apply Kd.R_drewN | apply Kd.R_drew)); exact HO_5.out⟩, ⟨by (with_reducible repeat (first | apply Kd.R_alloc | apply Kd.R_drewN | apply Kd.R_drew)); exact HO_13.out⟩, ⟨by (with_reducible repeat (first | refine blk_drewN ?_ _ | refine blk_drew ?_ | refine blk_alloc ?_ _)); exact BK286.out⟩, ⟨by repeat (first | (with_reducible first | exact HB.out | apply below_alloc | apply pw_below_drewN | apply below_drew1 | refine below_set ?_ GE286.out) | exact HB.out)⟩⟩
   )
   )
   (focus
   rw [if_neg c11] at H
   exact absurd H (by simp)
   )
   )
   (focus
   rw [if_neg c10] at H
   exact absurd H (by simp)
   )
   )
   (focus
   rw [if_neg c9] at H
   exact absurd H (by simp)
   )
   )
   (focus
   rw [if_neg c8] at H
   exact absurd H (by simp)
   )
   )
   (focus
   rw [if_neg c7] at H
   have c7b0 : decide (x15_1 < (t287.length : Int)) = false := decide_eq_false c7
   clear c7
   simp only [Option.some.injEq, Prod.mk.injEq] at H
   obtain ⟨rfl, rfl⟩ := H
   go_wp2
   go_ret2
   exact ⟨by first | rfl | (simp [errW_none, errW_some] <;> rfl) | (simp [*, errW_none, errW_some] <;> rfl), by repeat (first | (with_reducible first | exact HB.out | apply below_alloc | apply pw_below_drewN | apply below_drew1 | refine below_set ?_ GE286.out) | exact HB.out)⟩
   )
/-! ### semigrouplaw07_DfaShortest: function 10 -/
mutual
def semigrouplaw07_DfaShortest.j0 : Nat → ByteArray → ByteArray → Bool → Bool → Int → Int → List Bool → List (List Int) → Option (Bool)
 | 0, _, _, _, _, _, _, _, _ => none
 | k + 1, x1, x5, x6, x38, x297000, x297001, x297002, x297003 => if x38 = true then (some false) else ((dfa_Accepts.f k x297000 x297001 x297002 x297003 x1).bind fun t303 => (if t303 = true then (if x6 = true then ((semigroupref01_Compare.f k x5 x1).bind fun t304 => (semigrouplaw07_DfaShortest.j1 k x5 x6 (decide (t304 > 0)) x297000 x297001 x297002 x297003)) else (semigrouplaw07_DfaShortest.j1 k x5 x6 true x297000 x297001 x297002 x297003)) else (semigrouplaw07_DfaShortest.j1 k x5 x6 false x297000 x297001 x297002 x297003)))
def semigrouplaw07_DfaShortest.j1 : Nat → ByteArray → Bool → Bool → Int → Int → List Bool → List (List Int) → Option (Bool)
 | 0, _, _, _, _, _, _, _ => none
 | k + 1, x5, x6, x51, x297000, x297001, x297002, x297003 => if x51 = true then (some false) else (if x6 = true then ((dfa_Accepts.f k x297000 x297001 x297002 x297003 x5).bind fun t305 => (if t305 = true then ((semigrouplaw07_awake.f k).bind fun t306 => (some t306)) else (some false))) else ((semigrouplaw07_awake.f k).bind fun t307 => (some t307)))
end
def semigrouplaw07_DfaShortest.f (k : Nat) (a0_0 : Int) (a0_1 : Int) (l0_2 : List Bool) (l0_3 : List (List Int)) (a1 : ByteArray) : Option (Bool) := (dfa_Shortest.f k a0_0 a0_1 l0_2 l0_3).bind fun bt297 => ((semigrouplaw07_valid.f k a0_0 a0_1 l0_2 l0_3).bind fun t299 => (if t299 = true then ((semigroupref07_Shortest.f k a0_0 a0_1 l0_2 l0_3).bind fun bt301 => (if bt297.1.toList = bt301.1.toList then (semigrouplaw07_DfaShortest.j0 k a1 bt297.1 bt297.2 (bt297.2 != bt301.2) a0_0 a0_1 l0_2 l0_3) else (semigrouplaw07_DfaShortest.j0 k a1 bt297.1 bt297.2 true a0_0 a0_1 l0_2 l0_3))) else (if bt297.1.toList = ([] : List UInt8) then (if bt297.2 = true then (some false) else ((semigrouplaw07_awake.f k).bind fun t300 => (some t300))) else (some false))))
theorem semigrouplaw07_DfaShortest.mono_l : ∀ k, (∀ y0 y1 y2 y3 y4 y5 y6 y7, LeO (semigrouplaw07_DfaShortest.j0 k y0 y1 y2 y3 y4 y5 y6 y7) (semigrouplaw07_DfaShortest.j0 (k + 1) y0 y1 y2 y3 y4 y5 y6 y7)) ∧ (∀ y0 y1 y2 y3 y4 y5 y6, LeO (semigrouplaw07_DfaShortest.j1 k y0 y1 y2 y3 y4 y5 y6) (semigrouplaw07_DfaShortest.j1 (k + 1) y0 y1 y2 y3 y4 y5 y6))
 | 0 => ⟨fun _ _ _ _ _ _ _ _ r h => by simp [semigrouplaw07_DfaShortest.j0] at h, fun _ _ _ _ _ _ _ r h => by simp [semigrouplaw07_DfaShortest.j1] at h⟩
 | k + 1 => by
  obtain ⟨ih0, ih1⟩ := semigrouplaw07_DfaShortest.mono_l k
  refine ⟨?_, ?_⟩
  (focus
  intro y0 y1 y2 y3 y4 y5 y6 y7
  unfold semigrouplaw07_DfaShortest.j0
  repeat' first
  | (with_reducible exact ih0 _ _ _ _ _ _ _ _)
  | (with_reducible exact ih1 _ _ _ _ _ _ _)
  | (with_reducible exact dfa_Accepts.mono _ _ _ _ _ _)
  | (with_reducible exact dfa_Shortest.mono _ _ _ _ _)
  | (with_reducible exact semigrouplaw07_awake.mono _)
  | (with_reducible exact semigrouplaw07_valid.mono _ _ _ _ _)
  | (with_reducible exact semigroupref01_Compare.mono _ _ _)
  | (with_reducible exact semigroupref07_Shortest.mono _ _ _ _ _)
  | (with_reducible exact LeO.refl _)
  | (with_reducible exact LeO.none _)
  | (with_reducible refine LeO.ite ?_ ?_)
  | (with_reducible refine LeO.bind ?_ (fun _ => ?_))
  | exact ih0 _ _ _ _ _ _ _ _
  | exact ih1 _ _ _ _ _ _ _
  | exact dfa_Accepts.mono _ _ _ _ _ _
  | exact dfa_Shortest.mono _ _ _ _ _
  | exact semigrouplaw07_awake.mono _
  | exact semigrouplaw07_valid.mono _ _ _ _ _
  | exact semigroupref01_Compare.mono _ _ _
  | exact semigroupref07_Shortest.mono _ _ _ _ _
  | exact LeO.none _
  | refine LeO.ite ?_ ?_
  | refine LeO.bind ?_ (fun _ => ?_)
  )
  (focus
  intro y0 y1 y2 y3 y4 y5 y6
  unfold semigrouplaw07_DfaShortest.j1
  repeat' first
  | (with_reducible exact ih0 _ _ _ _ _ _ _ _)
  | (with_reducible exact ih1 _ _ _ _ _ _ _)
  | (with_reducible exact dfa_Accepts.mono _ _ _ _ _ _)
  | (with_reducible exact dfa_Shortest.mono _ _ _ _ _)
  | (with_reducible exact semigrouplaw07_awake.mono _)
  | (with_reducible exact semigrouplaw07_valid.mono _ _ _ _ _)
  | (with_reducible exact semigroupref01_Compare.mono _ _ _)
  | (with_reducible exact semigroupref07_Shortest.mono _ _ _ _ _)
  | (with_reducible exact LeO.refl _)
  | (with_reducible exact LeO.none _)
  | (with_reducible refine LeO.ite ?_ ?_)
  | (with_reducible refine LeO.bind ?_ (fun _ => ?_))
  | exact ih0 _ _ _ _ _ _ _ _
  | exact ih1 _ _ _ _ _ _ _
  | exact dfa_Accepts.mono _ _ _ _ _ _
  | exact dfa_Shortest.mono _ _ _ _ _
  | exact semigrouplaw07_awake.mono _
  | exact semigrouplaw07_valid.mono _ _ _ _ _
  | exact semigroupref01_Compare.mono _ _ _
  | exact semigroupref07_Shortest.mono _ _ _ _ _
  | exact LeO.none _
  | refine LeO.ite ?_ ?_
  | refine LeO.bind ?_ (fun _ => ?_)
  )
theorem semigrouplaw07_DfaShortest.mono : ∀ a0 a1 a2 a3 a4 k, LeO (semigrouplaw07_DfaShortest.f k a0 a1 a2 a3 a4) (semigrouplaw07_DfaShortest.f (k + 1) a0 a1 a2 a3 a4) := by
 intro a0 a1 a2 a3 a4 k
 obtain ⟨ih0, ih1⟩ := semigrouplaw07_DfaShortest.mono_l k
 unfold semigrouplaw07_DfaShortest.f
 repeat' first
  | (with_reducible exact ih0 _ _ _ _ _ _ _ _)
  | (with_reducible exact ih1 _ _ _ _ _ _ _)
  | (with_reducible exact dfa_Accepts.mono _ _ _ _ _ _)
  | (with_reducible exact dfa_Shortest.mono _ _ _ _ _)
  | (with_reducible exact semigrouplaw07_awake.mono _)
  | (with_reducible exact semigrouplaw07_valid.mono _ _ _ _ _)
  | (with_reducible exact semigroupref01_Compare.mono _ _ _)
  | (with_reducible exact semigroupref07_Shortest.mono _ _ _ _ _)
  | (with_reducible exact LeO.refl _)
  | (with_reducible exact LeO.none _)
  | (with_reducible refine LeO.ite ?_ ?_)
  | (with_reducible refine LeO.bind ?_ (fun _ => ?_))
  | exact ih0 _ _ _ _ _ _ _ _
  | exact ih1 _ _ _ _ _ _ _
  | exact dfa_Accepts.mono _ _ _ _ _ _
  | exact dfa_Shortest.mono _ _ _ _ _
  | exact semigrouplaw07_awake.mono _
  | exact semigrouplaw07_valid.mono _ _ _ _ _
  | exact semigroupref01_Compare.mono _ _ _
  | exact semigroupref07_Shortest.mono _ _ _ _ _
  | exact LeO.none _
  | refine LeO.ite ?_ ?_
  | refine LeO.bind ?_ (fun _ => ?_)
set_option maxHeartbeats 8000000 in
set_option maxRecDepth 100000 in
theorem semigrouplaw07_DfaShortest.calls (k : Nat) (a0_0 : Int) (a0_1 : Int) (A0_2 : Option Addr) (c0_2 : Nat) (l0_2 : List Bool) (A0_3 : Option Addr) (c0_3 : Nat) (l0_3 : List (List Int)) (a1 : ByteArray) (r : Bool) (w : World) (hr0_2 : Kd.C Kd.bool w A0_2 l0_2.length l0_2) (hc0_2 : l0_2.length ≤ c0_2) (hr0_3 : Kd.C (Kd.slice 3 (Kd.int .i64)) w A0_3 l0_3.length l0_3) (hc0_3 : l0_3.length ≤ c0_3) (h : semigrouplaw07_DfaShortest.f k a0_0 a0_1 l0_2 l0_3 a1 = some r) :
 Calls Try.prog 10 #[.agg #[.int .i64 a0_0, .int .i64 a0_1, .slice A0_2 l0_2.length c0_2, .slice A0_3 l0_3.length c0_3], .string a1] w fun e w' => e = .returned (.bool r) ∧ Below w.heap.size w w' := by
 have hu25 := Try.underlying25
 have HR0_2 := Aside0.mk hr0_2
 have HC0_2 := Aside0.mk hc0_2
 clear hr0_2 hc0_2
 have HR0_3 := Aside0.mk hr0_3
 have HC0_3 := Aside0.mk hc0_3
 clear hr0_3 hc0_3
 have HB := Aside0.mk (Below.refl w.heap.size w)
 have H : ((dfa_Shortest.f k a0_0 a0_1 l0_2 l0_3).bind fun bt297 => ((semigrouplaw07_valid.f k a0_0 a0_1 l0_2 l0_3).bind fun t299 => (if t299 = true then ((semigroupref07_Shortest.f k a0_0 a0_1 l0_2 l0_3).bind fun bt301 => (if bt297.1.toList = bt301.1.toList then (semigrouplaw07_DfaShortest.j0 k a1 bt297.1 bt297.2 (bt297.2 != bt301.2) a0_0 a0_1 l0_2 l0_3) else (semigrouplaw07_DfaShortest.j0 k a1 bt297.1 bt297.2 true a0_0 a0_1 l0_2 l0_3))) else (if bt297.1.toList = ([] : List UInt8) then (if bt297.2 = true then (some false) else ((semigrouplaw07_awake.f k).bind fun t300 => (some t300))) else (some false))))) = some r := h
 clear h
 replace H := Option.bind_eq_some_iff.mp H
 obtain ⟨⟨t297, t298⟩, A30, H⟩ := H
 replace H : ((semigrouplaw07_valid.f k a0_0 a0_1 l0_2 l0_3).bind fun t299 => (if t299 = true then ((semigroupref07_Shortest.f k a0_0 a0_1 l0_2 l0_3).bind fun bt301 => (if t297.toList = bt301.1.toList then (semigrouplaw07_DfaShortest.j0 k a1 t297 t298 (t298 != bt301.2) a0_0 a0_1 l0_2 l0_3) else (semigrouplaw07_DfaShortest.j0 k a1 t297 t298 true a0_0 a0_1 l0_2 l0_3))) else (if t297.toList = ([] : List UInt8) then (if t298 = true then (some false) else ((semigrouplaw07_awake.f k).bind fun t300 => (some t300))) else (some false)))) = some r := H
 have A3 := Aside0.mk A30
 clear A30
 replace H := Option.bind_eq_some_iff.mp H
 obtain ⟨t299, A40, H⟩ := H
 replace H : (if t299 = true then ((semigroupref07_Shortest.f k a0_0 a0_1 l0_2 l0_3).bind fun bt301 => (if t297.toList = bt301.1.toList then (semigrouplaw07_DfaShortest.j0 k a1 t297 t298 (t298 != bt301.2) a0_0 a0_1 l0_2 l0_3) else (semigrouplaw07_DfaShortest.j0 k a1 t297 t298 true a0_0 a0_1 l0_2 l0_3))) else (if t297.toList = ([] : List UInt8) then (if t298 = true then (some false) else ((semigrouplaw07_awake.f k).bind fun t300 => (some t300))) else (some false))) = some r := H
 have A4 := Aside0.mk A40
 clear A40
 by_cases c5 : t299 = true
 (focus
 subst c5
 have H1 : ((semigroupref07_Shortest.f k a0_0 a0_1 l0_2 l0_3).bind fun bt301 => (if t297.toList = bt301.1.toList then (semigrouplaw07_DfaShortest.j0 k a1 t297 t298 (t298 != bt301.2) a0_0 a0_1 l0_2 l0_3) else (semigrouplaw07_DfaShortest.j0 k a1 t297 t298 true a0_0 a0_1 l0_2 l0_3))) = some r := by rw [if_pos rfl] at H; exact H
 clear H
 have H := H1
 clear H1
 replace H := Option.bind_eq_some_iff.mp H
 obtain ⟨⟨t301, t302⟩, A60, H⟩ := H
 replace H : (if t297.toList = t301.toList then (semigrouplaw07_DfaShortest.j0 k a1 t297 t298 (t298 != t302) a0_0 a0_1 l0_2 l0_3) else (semigrouplaw07_DfaShortest.j0 k a1 t297 t298 true a0_0 a0_1 l0_2 l0_3)) = some r := H
 have A6 := Aside0.mk A60
 clear A60
 have HC7 := Aside0.mk H
 clear H
 go_enter Try.func10, Try.ntmps10
 go_upto_region 5 with (first | ((with_reducible refine gate_dst (N := 2) rfl ?_); refine box_event ?hg (N := 2) ?hd (cs := #[.int .i64 a0_0, .int .i64 a0_1, .slice A0_2 l0_2.length c0_2, .slice A0_3 l0_3.length c0_3]) (t := 25) ?hr ?_; (case hd => rfl); (case hg => rfl); (case hr => first | (go_simp; done) | (go_simp; rfl)); intro gb296 hg w8 hbox hb; have n0_ := Aside0.mk (below_step (by repeat (first | (with_reducible first | exact HB.out | apply below_alloc | apply pw_below_drewN | apply below_drew1) | exact HB.out)) hb); have n1_ := Aside0.mk (hbox); have n2_ := Aside0.mk ((by rw [hg]; exact (below_size (by repeat (first | (with_reducible first | exact HB.out | apply below_alloc | apply pw_below_drewN | apply below_drew1) | exact HB.out))) : w.heap.size ≤ gb296)); have n3_ := Aside0.mk ((by rw [hg]; exact (below_size (by repeat (first | (with_reducible first | exact HB.out | apply below_alloc | apply pw_below_drewN | apply below_drew1) | exact HB.out))) : w.heap.size ≤ gb296)); clear HB; have HB := n0_; have BK296 := n1_; have GW296 := n2_; have GE296 := n3_; clear n0_ n1_ n2_ n3_; clear hb hbox hg; have hcz9_0 : w8.cell? ⟨gb296, 0, none⟩ = some (.int .i64 a0_0) := (blk_cell BK296.out 0).trans rfl; have hcz9_1 : w8.cell? ⟨gb296, 1, none⟩ = some (.int .i64 a0_1) := (blk_cell BK296.out 1).trans rfl; have hcz9_2 : w8.cell? ⟨gb296, 2, none⟩ = some (.slice A0_2 l0_2.length c0_2) := (blk_cell BK296.out 2).trans rfl; have hcz9_3 : w8.cell? ⟨gb296, 3, none⟩ = some (.slice A0_3 l0_3.length c0_3) := (blk_cell BK296.out 3).trans rfl; have hfz9_0 := blk_frozen BK296.out 0; have hfz9_1 := blk_frozen BK296.out 1; have hfz9_2 := blk_frozen BK296.out 2; have hfz9_3 := blk_frozen BK296.out 3) | ((with_reducible refine gate_callee (f := 35) rfl ?_); refine goesL_ (some 11) rfl rfl Try.func35 (by kernel_rfl) rfl #[.agg #[.int .i64 a0_0, .int .i64 a0_1, .slice A0_2 l0_2.length c0_2, .slice A0_3 l0_3.length c0_3]] rfl (by (try simp only [List.map_toArray, List.map_cons, List.map_nil]); first | done | rfl | (simp only [List.length_drop, List.length_take]; rfl)) ?_; (with_reducible refine (dfa_Shortest.calls k a0_0 a0_1 _ _ l0_2 _ _ l0_3 t297 t298 _ ?side1 ?side2 ?side3 ?side4 A3.out).mono ?_); (case side1 => repeat (first | exact (Kd.C_below HR0_2.out HB.out) | (with_reducible refine Kd.C_alloc ?_ _) | (with_reducible refine Kd.C_drewN ?_ _) | (with_reducible refine Kd.C_drew ?_))); (case side2 => exact HC0_2.out); (case side3 => repeat (first | exact (Kd.C_below HR0_3.out HB.out) | (with_reducible refine Kd.C_alloc ?_ _) | (with_reducible refine Kd.C_drewN ?_ _) | (with_reducible refine Kd.C_drew ?_))); (case side4 => exact HC0_3.out); rintro e w10 ⟨rfl, hb⟩; refine ⟨_, rfl, ?_⟩; have n0_ := Aside0.mk (blk_below (g := gb296) (o := .cells #[.int .i64 a0_0, .int .i64 a0_1, .slice A0_2 l0_2.length c0_2, .slice A0_3 l0_3.length c0_3] 25 (0, 0)) (uB BK296.out) hb); have n1_ := Aside0.mk (below_step (by repeat (first | (with_reducible first | exact HB.out | apply below_alloc | apply pw_below_drewN | apply below_drew1 | refine below_set ?_ GE296.out) | exact HB.out)) hb); clear BK296; clear HB; have BK296 := n0_; have HB := n1_; clear n0_ n1_; (try clear hb); (try clear hb2); (try clear hk); (try clear hi); have hcz11_0 : w10.cell? ⟨gb296, 0, none⟩ = some (.int .i64 a0_0) := (blk_cell BK296.out 0).trans rfl; have hcz11_1 : w10.cell? ⟨gb296, 1, none⟩ = some (.int .i64 a0_1) := (blk_cell BK296.out 1).trans rfl; have hcz11_2 : w10.cell? ⟨gb296, 2, none⟩ = some (.slice A0_2 l0_2.length c0_2) := (blk_cell BK296.out 2).trans rfl; have hcz11_3 : w10.cell? ⟨gb296, 3, none⟩ = some (.slice A0_3 l0_3.length c0_3) := (blk_cell BK296.out 3).trans rfl; have hfz11_0 := blk_frozen BK296.out 0; have hfz11_1 := blk_frozen BK296.out 1; have hfz11_2 := blk_frozen BK296.out 2; have hfz11_3 := blk_frozen BK296.out 3) | ((with_reducible refine gate_callee (f := 17) rfl ?_); refine goesL_ (some 15) rfl rfl Try.func17 (by kernel_rfl) rfl #[.agg #[.int .i64 a0_0, .int .i64 a0_1, .slice A0_2 l0_2.length c0_2, .slice A0_3 l0_3.length c0_3]] rfl (by (try simp only [List.map_toArray, List.map_cons, List.map_nil]); first | done | rfl | (simp only [List.length_drop, List.length_take]; rfl)) ?_; (with_reducible refine (semigrouplaw07_valid.calls k a0_0 a0_1 _ _ l0_2 _ _ l0_3 true _ ?side1 ?side2 ?side3 ?side4 A4.out).mono ?_); (case side1 => repeat (first | exact (Kd.C_below HR0_2.out HB.out) | (with_reducible refine Kd.C_alloc ?_ _) | (with_reducible refine Kd.C_drewN ?_ _) | (with_reducible refine Kd.C_drew ?_))); (case side2 => exact HC0_2.out); (case side3 => repeat (first | exact (Kd.C_below HR0_3.out HB.out) | (with_reducible refine Kd.C_alloc ?_ _) | (with_reducible refine Kd.C_drewN ?_ _) | (with_reducible refine Kd.C_drew ?_))); (case side4 => exact HC0_3.out); rintro e w12 ⟨rfl, hb⟩; refine ⟨_, rfl, ?_⟩; have n0_ := Aside0.mk (blk_below (g := gb296) (o := .cells #[.int .i64 a0_0, .int .i64 a0_1, .slice A0_2 l0_2.length c0_2, .slice A0_3 l0_3.length c0_3] 25 (0, 0)) (uB BK296.out) hb); have n1_ := Aside0.mk (below_step (by repeat (first | (with_reducible first | exact HB.out | apply below_alloc | apply pw_below_drewN | apply below_drew1 | refine below_set ?_ GE296.out) | exact HB.out)) hb); clear BK296; clear HB; have BK296 := n0_; have HB := n1_; clear n0_ n1_; (try clear hb); (try clear hb2); (try clear hk); (try clear hi); have hcz13_0 : w12.cell? ⟨gb296, 0, none⟩ = some (.int .i64 a0_0) := (blk_cell BK296.out 0).trans rfl; have hcz13_1 : w12.cell? ⟨gb296, 1, none⟩ = some (.int .i64 a0_1) := (blk_cell BK296.out 1).trans rfl; have hcz13_2 : w12.cell? ⟨gb296, 2, none⟩ = some (.slice A0_2 l0_2.length c0_2) := (blk_cell BK296.out 2).trans rfl; have hcz13_3 : w12.cell? ⟨gb296, 3, none⟩ = some (.slice A0_3 l0_3.length c0_3) := (blk_cell BK296.out 3).trans rfl; have hfz13_0 := blk_frozen BK296.out 0; have hfz13_1 := blk_frozen BK296.out 1; have hfz13_2 := blk_frozen BK296.out 2; have hfz13_3 := blk_frozen BK296.out 3) | ((with_reducible refine gate_callee (f := 36) rfl ?_); refine goesL_ (some 28) rfl rfl Try.func36 (by kernel_rfl) rfl #[.agg #[.int .i64 a0_0, .int .i64 a0_1, .slice A0_2 l0_2.length c0_2, .slice A0_3 l0_3.length c0_3]] rfl (by (try simp only [List.map_toArray, List.map_cons, List.map_nil]); first | done | rfl | (simp only [List.length_drop, List.length_take]; rfl)) ?_; (with_reducible refine (semigroupref07_Shortest.calls k a0_0 a0_1 _ _ l0_2 _ _ l0_3 t301 t302 _ ?side1 ?side2 ?side3 ?side4 A6.out).mono ?_); (case side1 => repeat (first | exact (Kd.C_below HR0_2.out HB.out) | (with_reducible refine Kd.C_alloc ?_ _) | (with_reducible refine Kd.C_drewN ?_ _) | (with_reducible refine Kd.C_drew ?_))); (case side2 => exact HC0_2.out); (case side3 => repeat (first | exact (Kd.C_below HR0_3.out HB.out) | (with_reducible refine Kd.C_alloc ?_ _) | (with_reducible refine Kd.C_drewN ?_ _) | (with_reducible refine Kd.C_drew ?_))); (case side4 => exact HC0_3.out); rintro e w14 ⟨rfl, hb⟩; refine ⟨_, rfl, ?_⟩; have n0_ := Aside0.mk (blk_below (g := gb296) (o := .cells #[.int .i64 a0_0, .int .i64 a0_1, .slice A0_2 l0_2.length c0_2, .slice A0_3 l0_3.length c0_3] 25 (0, 0)) (uB BK296.out) hb); have n1_ := Aside0.mk (below_step (by repeat (first | (with_reducible first | exact HB.out | apply below_alloc | apply pw_below_drewN | apply below_drew1 | refine below_set ?_ GE296.out) | exact HB.out)) hb); clear BK296; clear HB; have BK296 := n0_; have HB := n1_; clear n0_ n1_; (try clear hb); (try clear hb2); (try clear hk); (try clear hi)))
 (try simp only [Act.put, List.setIfInBounds_toArray, List.set_cons_zero, List.set_cons_succ])
 go_cut [38] (fun v38 wc => ∃ (kq : Nat) (x38_6 : Bool), v38 = .bool x38_6 ∧ Aside0 (semigrouplaw07_DfaShortest.j0 kq a1 t297 t298 x38_6 a0_0 a0_1 l0_2 l0_3 = some r) ∧ Aside0 (kq ≤ k) ∧ Aside0 (wc.heap[gb296]? = some (.cells #[.int .i64 a0_0, .int .i64 a0_1, (.slice A0_2 l0_2.length c0_2), (.slice A0_3 l0_3.length c0_3)] 25 (0, 0))) ∧ Aside0 (Below w.heap.size w wc))
 case first =>
  have H := HC7.out
  clear HC7
  by_cases c15 : t297.toList = t301.toList
  (focus
  rw [if_pos c15] at H
  have c15b0 : (t297.toList == t301.toList) = true := beq_iff_eq.mpr c15
  have c15b1 : (t297.toList != t301.toList) = false := bne_eq_false_iff_eq.mpr c15
  clear c15
  (first | rw [c15b0] | (simp only [i64_w, i32_w]; rw [c15b0]) | skip)
  have H' := Aside0.mk H
  clear H
  go_wp2
  go_meet
  case rel => exact ⟨_, ((t298 != t302)), (by first | rfl | (simp; done) | (simp [*]; done)), H', ⟨by first | omega | exact Nat.le_refl _⟩, ⟨by (with_reducible repeat (first | refine blk_drewN ?_ _ | refine blk_drew ?_ | refine blk_alloc ?_ _)); exact BK296.out⟩, ⟨by repeat (first | (with_reducible first | exact HB.out | apply below_alloc | apply pw_below_drewN | apply below_drew1 | refine below_set ?_ GE296.out) | exact HB.out)⟩⟩
  )
  (focus
  rw [if_neg c15] at H
  have c15b0 : (t297.toList == t301.toList) = false := beq_eq_false_iff_ne.mpr c15
  have c15b1 : (t297.toList != t301.toList) = true := bne_iff_ne.mpr c15
  (first | rw [c15b0] | (simp only [i64_w, i32_w]; rw [c15b0]) | skip)
  have H' := Aside0.mk H
  clear H
  go_wp2
  go_meet
  case rel => exact ⟨_, (true), (by first | rfl | (simp; done) | (simp [*]; done)), H', ⟨by first | omega | exact Nat.le_refl _⟩, ⟨by (with_reducible repeat (first | refine blk_drewN ?_ _ | refine blk_drew ?_ | refine blk_alloc ?_ _)); exact BK296.out⟩, ⟨by repeat (first | (with_reducible first | exact HB.out | apply below_alloc | apply pw_below_drewN | apply below_drew1 | refine below_set ?_ GE296.out) | exact HB.out)⟩⟩
  )
 case rest =>
  clear HC7
  try clear c1
  try clear p2
  try clear c3
  try clear c5
  try clear c10
  try clear c15
  try clear c15b0
  try clear c15b1
  try clear hcz11_0
  try clear hcz11_1
  try clear hcz11_2
  try clear hcz11_3
  try clear hcz13_0
  try clear hcz13_1
  try clear hcz13_2
  try clear hcz13_3
  try clear hcz9_0
  try clear hcz9_1
  try clear hcz9_2
  try clear hcz9_3
  try clear hfz11_0
  try clear hfz11_1
  try clear hfz11_2
  try clear hfz11_3
  try clear hfz13_0
  try clear hfz13_1
  try clear hfz13_2
  try clear hfz13_3
  try clear hfz9_0
  try clear hfz9_1
  try clear hfz9_2
  try clear hfz9_3
  obtain ⟨kq, x38_6, rfl, HA, HJ6, BK296, HB⟩ := hcut
  cases kq with
  | zero => exact absurd HA.out (by simp [semigrouplaw07_DfaShortest.j0])
  | succ kj6 =>
   have H := HA.out
   clear HA
   simp only [semigrouplaw07_DfaShortest.j0] at H
   by_cases c16 : x38_6 = true
   (focus
   subst c16
   have H1 : (some false) = some r := by rw [if_pos rfl] at H; exact H
   clear H
   have H := H1
   clear H1
   obtain rfl := Option.some.inj H
   go_wp2
   go_ret
   exact ⟨by first | rfl | (simp [errW_none, errW_some] <;> rfl) | (simp [*, errW_none, errW_some] <;> rfl), by repeat (first | (with_reducible first | exact HB.out | apply below_alloc | apply pw_below_drewN | apply below_drew1 | refine below_set ?_ GE296.out) | exact HB.out)⟩
   )
   (focus
   replace c16 := Bool.eq_false_iff.mpr c16
   subst c16
   have H1 : ((dfa_Accepts.f kj6 a0_0 a0_1 l0_2 l0_3 a1).bind fun t303 => (if t303 = true then (if t298 = true then ((semigroupref01_Compare.f kj6 t297 a1).bind fun t304 => (semigrouplaw07_DfaShortest.j1 kj6 t297 t298 (decide (t304 > 0)) a0_0 a0_1 l0_2 l0_3)) else (semigrouplaw07_DfaShortest.j1 kj6 t297 t298 true a0_0 a0_1 l0_2 l0_3)) else (semigrouplaw07_DfaShortest.j1 kj6 t297 t298 false a0_0 a0_1 l0_2 l0_3))) = some r := by rw [if_neg (show ¬ (false = true) by decide)] at H; exact H
   clear H
   have H := H1
   clear H1
   have HC17 := Aside0.mk H
   clear H
   go_upto_region 7 with (fail)
   go_cut [51] (fun v51 wc => ∃ (kq : Nat) (x51_16 : Bool), v51 = .bool x51_16 ∧ Aside0 (semigrouplaw07_DfaShortest.j1 kq t297 t298 x51_16 a0_0 a0_1 l0_2 l0_3 = some r) ∧ Aside0 (kq ≤ kj6) ∧ Aside0 (wc.heap[gb296]? = some (.cells #[.int .i64 a0_0, .int .i64 a0_1, (.slice A0_2 l0_2.length c0_2), (.slice A0_3 l0_3.length c0_3)] 25 (0, 0))) ∧ Aside0 (Below w.heap.size w wc))
   case first =>
    have H := HC17.out
    clear HC17
    replace H := Option.bind_eq_some_iff.mp H
    obtain ⟨t303, A180, H⟩ := H
    replace H : (if t303 = true then (if t298 = true then ((semigroupref01_Compare.f kj6 t297 a1).bind fun t304 => (semigrouplaw07_DfaShortest.j1 kj6 t297 t298 (decide (t304 > 0)) a0_0 a0_1 l0_2 l0_3)) else (semigrouplaw07_DfaShortest.j1 kj6 t297 t298 true a0_0 a0_1 l0_2 l0_3)) else (semigrouplaw07_DfaShortest.j1 kj6 t297 t298 false a0_0 a0_1 l0_2 l0_3)) = some r := H
    have A18 := Aside0.mk A180
    clear A180
    by_cases c19 : t303 = true
    (focus
    subst c19
    have H1 : (if t298 = true then ((semigroupref01_Compare.f kj6 t297 a1).bind fun t304 => (semigrouplaw07_DfaShortest.j1 kj6 t297 t298 (decide (t304 > 0)) a0_0 a0_1 l0_2 l0_3)) else (semigrouplaw07_DfaShortest.j1 kj6 t297 t298 true a0_0 a0_1 l0_2 l0_3)) = some r := by rw [if_pos rfl] at H; exact H
    clear H
    have H := H1
    clear H1
    by_cases c20 : t298 = true
    (focus
    subst c20
    have H1 : ((semigroupref01_Compare.f kj6 t297 a1).bind fun t304 => (semigrouplaw07_DfaShortest.j1 kj6 t297 true (decide (t304 > 0)) a0_0 a0_1 l0_2 l0_3)) = some r := by rw [if_pos rfl] at H; exact H
    clear H
    have H := H1
    clear H1
    replace H := Option.bind_eq_some_iff.mp H
    obtain ⟨t304, A210, H⟩ := H
    replace H : (semigrouplaw07_DfaShortest.j1 kj6 t297 true (decide (t304 > 0)) a0_0 a0_1 l0_2 l0_3) = some r := H
    have A21 := Aside0.mk A210
    clear A210
    have H' := Aside0.mk H
    clear H
    have hcz22_0 : wc.cell? ⟨gb296, 0, none⟩ = some (.int .i64 a0_0) := (blk_cell BK296.out 0).trans rfl
    have hcz22_1 : wc.cell? ⟨gb296, 1, none⟩ = some (.int .i64 a0_1) := (blk_cell BK296.out 1).trans rfl
    have hcz22_2 : wc.cell? ⟨gb296, 2, none⟩ = some (.slice A0_2 l0_2.length c0_2) := (blk_cell BK296.out 2).trans rfl
    have hcz22_3 : wc.cell? ⟨gb296, 3, none⟩ = some (.slice A0_3 l0_3.length c0_3) := (blk_cell BK296.out 3).trans rfl
    have hfz22_0 := blk_frozen BK296.out 0
    have hfz22_1 := blk_frozen BK296.out 1
    have hfz22_2 := blk_frozen BK296.out 2
    have hfz22_3 := blk_frozen BK296.out 3
    go_wp2_with (first | ((with_reducible refine gate_callee (f := 24) rfl ?_); refine goesL_ (some 41) rfl rfl Try.func24 (by kernel_rfl) rfl #[.agg #[.int .i64 a0_0, .int .i64 a0_1, .slice A0_2 l0_2.length c0_2, .slice A0_3 l0_3.length c0_3], .string a1] rfl (by (try simp only [List.map_toArray, List.map_cons, List.map_nil]); first | done | rfl | (simp only [List.length_drop, List.length_take]; rfl)) ?_; (with_reducible refine (dfa_Accepts.calls kj6 a0_0 a0_1 _ _ l0_2 _ _ l0_3 a1 true _ ?side1 ?side2 ?side3 ?side4 A18.out).mono ?_); (case side1 => repeat (first | exact (Kd.C_below HR0_2.out HB.out) | (with_reducible refine Kd.C_alloc ?_ _) | (with_reducible refine Kd.C_drewN ?_ _) | (with_reducible refine Kd.C_drew ?_))); (case side2 => exact HC0_2.out); (case side3 => repeat (first | exact (Kd.C_below HR0_3.out HB.out) | (with_reducible refine Kd.C_alloc ?_ _) | (with_reducible refine Kd.C_drewN ?_ _) | (with_reducible refine Kd.C_drew ?_))); (case side4 => exact HC0_3.out); rintro e w23 ⟨rfl, hb⟩; refine ⟨_, rfl, ?_⟩; have n0_ := Aside0.mk (blk_below (g := gb296) (o := .cells #[.int .i64 a0_0, .int .i64 a0_1, .slice A0_2 l0_2.length c0_2, .slice A0_3 l0_3.length c0_3] 25 (0, 0)) (uB BK296.out) hb); have n1_ := Aside0.mk (below_step (by repeat (first | (with_reducible first | exact HB.out | apply below_alloc | apply pw_below_drewN | apply below_drew1 | refine below_set ?_ GE296.out) | exact HB.out)) hb); clear BK296; clear HB; have BK296 := n0_; have HB := n1_; clear n0_ n1_; (try clear hb); (try clear hb2); (try clear hk); (try clear hi)) | (go_at_call 34; (with_reducible refine (semigroupref01_Compare.calls kj6 t297 a1 t304 _ A21.out).mono ?_); rintro e w' ⟨rfl, ⟨nd, rfl⟩⟩))
    go_meet
    case rel => exact ⟨_, (decide (t304 > 0)), (by first | rfl | (simp; done) | (simp [*]; done)), H', ⟨by have := HJ6.out; first | omega | exact Nat.le_refl _⟩, ⟨by (with_reducible repeat (first | refine blk_drewN ?_ _ | refine blk_drew ?_ | refine blk_alloc ?_ _)); exact BK296.out⟩, ⟨by repeat (first | (with_reducible first | exact HB.out | apply below_alloc | apply pw_below_drewN | apply below_drew1 | refine below_set ?_ GE296.out) | exact HB.out)⟩⟩
    )
    (focus
    replace c20 := Bool.eq_false_iff.mpr c20
    subst c20
    have H1 : (semigrouplaw07_DfaShortest.j1 kj6 t297 false true a0_0 a0_1 l0_2 l0_3) = some r := by rw [if_neg (show ¬ (false = true) by decide)] at H; exact H
    clear H
    have H := H1
    clear H1
    have H' := Aside0.mk H
    clear H
    have hcz24_0 : wc.cell? ⟨gb296, 0, none⟩ = some (.int .i64 a0_0) := (blk_cell BK296.out 0).trans rfl
    have hcz24_1 : wc.cell? ⟨gb296, 1, none⟩ = some (.int .i64 a0_1) := (blk_cell BK296.out 1).trans rfl
    have hcz24_2 : wc.cell? ⟨gb296, 2, none⟩ = some (.slice A0_2 l0_2.length c0_2) := (blk_cell BK296.out 2).trans rfl
    have hcz24_3 : wc.cell? ⟨gb296, 3, none⟩ = some (.slice A0_3 l0_3.length c0_3) := (blk_cell BK296.out 3).trans rfl
    have hfz24_0 := blk_frozen BK296.out 0
    have hfz24_1 := blk_frozen BK296.out 1
    have hfz24_2 := blk_frozen BK296.out 2
    have hfz24_3 := blk_frozen BK296.out 3
    go_wp2_with (first | ((with_reducible refine gate_callee (f := 24) rfl ?_); refine goesL_ (some 41) rfl rfl Try.func24 (by kernel_rfl) rfl #[.agg #[.int .i64 a0_0, .int .i64 a0_1, .slice A0_2 l0_2.length c0_2, .slice A0_3 l0_3.length c0_3], .string a1] rfl (by (try simp only [List.map_toArray, List.map_cons, List.map_nil]); first | done | rfl | (simp only [List.length_drop, List.length_take]; rfl)) ?_; (with_reducible refine (dfa_Accepts.calls kj6 a0_0 a0_1 _ _ l0_2 _ _ l0_3 a1 true _ ?side1 ?side2 ?side3 ?side4 A18.out).mono ?_); (case side1 => repeat (first | exact (Kd.C_below HR0_2.out HB.out) | (with_reducible refine Kd.C_alloc ?_ _) | (with_reducible refine Kd.C_drewN ?_ _) | (with_reducible refine Kd.C_drew ?_))); (case side2 => exact HC0_2.out); (case side3 => repeat (first | exact (Kd.C_below HR0_3.out HB.out) | (with_reducible refine Kd.C_alloc ?_ _) | (with_reducible refine Kd.C_drewN ?_ _) | (with_reducible refine Kd.C_drew ?_))); (case side4 => exact HC0_3.out); rintro e w25 ⟨rfl, hb⟩; refine ⟨_, rfl, ?_⟩; have n0_ := Aside0.mk (blk_below (g := gb296) (o := .cells #[.int .i64 a0_0, .int .i64 a0_1, .slice A0_2 l0_2.length c0_2, .slice A0_3 l0_3.length c0_3] 25 (0, 0)) (uB BK296.out) hb); have n1_ := Aside0.mk (below_step (by repeat (first | (with_reducible first | exact HB.out | apply below_alloc | apply pw_below_drewN | apply below_drew1 | refine below_set ?_ GE296.out) | exact HB.out)) hb); clear BK296; clear HB; have BK296 := n0_; have HB := n1_; clear n0_ n1_; (try clear hb); (try clear hb2); (try clear hk); (try clear hi)))
    go_meet
    case rel => exact ⟨_, (true), (by first | rfl | (simp; done) | (simp [*]; done)), H', ⟨by have := HJ6.out; first | omega | exact Nat.le_refl _⟩, ⟨by (with_reducible repeat (first | refine blk_drewN ?_ _ | refine blk_drew ?_ | refine blk_alloc ?_ _)); exact BK296.out⟩, ⟨by repeat (first | (with_reducible first | exact HB.out | apply below_alloc | apply pw_below_drewN | apply below_drew1 | refine below_set ?_ GE296.out) | exact HB.out)⟩⟩
    )
    )
    (focus
    replace c19 := Bool.eq_false_iff.mpr c19
    subst c19
    have H1 : (semigrouplaw07_DfaShortest.j1 kj6 t297 t298 false a0_0 a0_1 l0_2 l0_3) = some r := by rw [if_neg (show ¬ (false = true) by decide)] at H; exact H
    clear H
    have H := H1
    clear H1
    have H' := Aside0.mk H
    clear H
    have hcz26_0 : wc.cell? ⟨gb296, 0, none⟩ = some (.int .i64 a0_0) := (blk_cell BK296.out 0).trans rfl
    have hcz26_1 : wc.cell? ⟨gb296, 1, none⟩ = some (.int .i64 a0_1) := (blk_cell BK296.out 1).trans rfl
    have hcz26_2 : wc.cell? ⟨gb296, 2, none⟩ = some (.slice A0_2 l0_2.length c0_2) := (blk_cell BK296.out 2).trans rfl
    have hcz26_3 : wc.cell? ⟨gb296, 3, none⟩ = some (.slice A0_3 l0_3.length c0_3) := (blk_cell BK296.out 3).trans rfl
    have hfz26_0 := blk_frozen BK296.out 0
    have hfz26_1 := blk_frozen BK296.out 1
    have hfz26_2 := blk_frozen BK296.out 2
    have hfz26_3 := blk_frozen BK296.out 3
    go_wp2_with (first | ((with_reducible refine gate_callee (f := 24) rfl ?_); refine goesL_ (some 41) rfl rfl Try.func24 (by kernel_rfl) rfl #[.agg #[.int .i64 a0_0, .int .i64 a0_1, .slice A0_2 l0_2.length c0_2, .slice A0_3 l0_3.length c0_3], .string a1] rfl (by (try simp only [List.map_toArray, List.map_cons, List.map_nil]); first | done | rfl | (simp only [List.length_drop, List.length_take]; rfl)) ?_; (with_reducible refine (dfa_Accepts.calls kj6 a0_0 a0_1 _ _ l0_2 _ _ l0_3 a1 false _ ?side1 ?side2 ?side3 ?side4 A18.out).mono ?_); (case side1 => repeat (first | exact (Kd.C_below HR0_2.out HB.out) | (with_reducible refine Kd.C_alloc ?_ _) | (with_reducible refine Kd.C_drewN ?_ _) | (with_reducible refine Kd.C_drew ?_))); (case side2 => exact HC0_2.out); (case side3 => repeat (first | exact (Kd.C_below HR0_3.out HB.out) | (with_reducible refine Kd.C_alloc ?_ _) | (with_reducible refine Kd.C_drewN ?_ _) | (with_reducible refine Kd.C_drew ?_))); (case side4 => exact HC0_3.out); rintro e w27 ⟨rfl, hb⟩; refine ⟨_, rfl, ?_⟩; have n0_ := Aside0.mk (blk_below (g := gb296) (o := .cells #[.int .i64 a0_0, .int .i64 a0_1, .slice A0_2 l0_2.length c0_2, .slice A0_3 l0_3.length c0_3] 25 (0, 0)) (uB BK296.out) hb); have n1_ := Aside0.mk (below_step (by repeat (first | (with_reducible first | exact HB.out | apply below_alloc | apply pw_below_drewN | apply below_drew1 | refine below_set ?_ GE296.out) | exact HB.out)) hb); clear BK296; clear HB; have BK296 := n0_; have HB := n1_; clear n0_ n1_; (try clear hb); (try clear hb2); (try clear hk); (try clear hi)))
    go_meet
    case rel => exact ⟨_, (false), (by first | rfl | (simp; done) | (simp [*]; done)), H', ⟨by have := HJ6.out; first | omega | exact Nat.le_refl _⟩, ⟨by (with_reducible repeat (first | refine blk_drewN ?_ _ | refine blk_drew ?_ | refine blk_alloc ?_ _)); exact BK296.out⟩, ⟨by repeat (first | (with_reducible first | exact HB.out | apply below_alloc | apply pw_below_drewN | apply below_drew1 | refine below_set ?_ GE296.out) | exact HB.out)⟩⟩
    )
   case rest =>
    clear HC17
    try clear c1
    try clear c2
    try clear p2
    try clear c3
    try clear c5
    try clear c10
    try clear c15
    try clear c15b0
    try clear c15b1
    try clear c16
    try clear c17
    try clear c19
    try clear c20
    try clear c24
    try clear hcz11_0
    try clear hcz11_1
    try clear hcz11_2
    try clear hcz11_3
    try clear hcz13_0
    try clear hcz13_1
    try clear hcz13_2
    try clear hcz13_3
    try clear hcz22_0
    try clear hcz22_1
    try clear hcz22_2
    try clear hcz22_3
    try clear hcz24_0
    try clear hcz24_1
    try clear hcz24_2
    try clear hcz24_3
    try clear hcz26_0
    try clear hcz26_1
    try clear hcz26_2
    try clear hcz26_3
    try clear hcz9_0
    try clear hcz9_1
    try clear hcz9_2
    try clear hcz9_3
    try clear hfz11_0
    try clear hfz11_1
    try clear hfz11_2
    try clear hfz11_3
    try clear hfz13_0
    try clear hfz13_1
    try clear hfz13_2
    try clear hfz13_3
    try clear hfz22_0
    try clear hfz22_1
    try clear hfz22_2
    try clear hfz22_3
    try clear hfz24_0
    try clear hfz24_1
    try clear hfz24_2
    try clear hfz24_3
    try clear hfz26_0
    try clear hfz26_1
    try clear hfz26_2
    try clear hfz26_3
    try clear hfz9_0
    try clear hfz9_1
    try clear hfz9_2
    try clear hfz9_3
    try clear p2
    obtain ⟨kq, x51_16, rfl, HA, HJ16, BK296, HB⟩ := hcut
    cases kq with
    | zero => exact absurd HA.out (by simp [semigrouplaw07_DfaShortest.j1])
    | succ kj16 =>
     have H := HA.out
     clear HA
     simp only [semigrouplaw07_DfaShortest.j1] at H
     by_cases c28 : x51_16 = true
     (focus
     subst c28
     have H1 : (some false) = some r := by rw [if_pos rfl] at H; exact H
     clear H
     have H := H1
     clear H1
     obtain rfl := Option.some.inj H
     go_wp2
     go_ret
     exact ⟨by first | rfl | (simp [errW_none, errW_some] <;> rfl) | (simp [*, errW_none, errW_some] <;> rfl), by repeat (first | (with_reducible first | exact HB.out | apply below_alloc | apply pw_below_drewN | apply below_drew1 | refine below_set ?_ GE296.out) | exact HB.out)⟩
     )
     (focus
     replace c28 := Bool.eq_false_iff.mpr c28
     subst c28
     have H1 : (if t298 = true then ((dfa_Accepts.f kj16 a0_0 a0_1 l0_2 l0_3 t297).bind fun t305 => (if t305 = true then ((semigrouplaw07_awake.f kj16).bind fun t306 => (some t306)) else (some false))) else ((semigrouplaw07_awake.f kj16).bind fun t307 => (some t307))) = some r := by rw [if_neg (show ¬ (false = true) by decide)] at H; exact H
     clear H
     have H := H1
     clear H1
     by_cases c29 : t298 = true
     (focus
     subst c29
     have H1 : ((dfa_Accepts.f kj16 a0_0 a0_1 l0_2 l0_3 t297).bind fun t305 => (if t305 = true then ((semigrouplaw07_awake.f kj16).bind fun t306 => (some t306)) else (some false))) = some r := by rw [if_pos rfl] at H; exact H
     clear H
     have H := H1
     clear H1
     replace H := Option.bind_eq_some_iff.mp H
     obtain ⟨t305, A300, H⟩ := H
     replace H : (if t305 = true then ((semigrouplaw07_awake.f kj16).bind fun t306 => (some t306)) else (some false)) = some r := H
     have A30 := Aside0.mk A300
     clear A300
     by_cases c31 : t305 = true
     (focus
     subst c31
     have H1 : ((semigrouplaw07_awake.f kj16).bind fun t306 => (some t306)) = some r := by rw [if_pos rfl] at H; exact H
     clear H
     have H := H1
     clear H1
     replace H := Option.bind_eq_some_iff.mp H
     obtain ⟨t306, A320, H⟩ := H
     replace H : (some t306) = some r := H
     have A32 := Aside0.mk A320
     clear A320
     obtain rfl := Option.some.inj H
     have hcz33_0 : wc.cell? ⟨gb296, 0, none⟩ = some (.int .i64 a0_0) := (blk_cell BK296.out 0).trans rfl
     have hcz33_1 : wc.cell? ⟨gb296, 1, none⟩ = some (.int .i64 a0_1) := (blk_cell BK296.out 1).trans rfl
     have hcz33_2 : wc.cell? ⟨gb296, 2, none⟩ = some (.slice A0_2 l0_2.length c0_2) := (blk_cell BK296.out 2).trans rfl
     have hcz33_3 : wc.cell? ⟨gb296, 3, none⟩ = some (.slice A0_3 l0_3.length c0_3) := (blk_cell BK296.out 3).trans rfl
     have hfz33_0 := blk_frozen BK296.out 0
     have hfz33_1 := blk_frozen BK296.out 1
     have hfz33_2 := blk_frozen BK296.out 2
     have hfz33_3 := blk_frozen BK296.out 3
     go_wp2_with (first | (go_at_call 24; (with_reducible refine (dfa_Accepts.calls kj16 a0_0 a0_1 _ _ l0_2 _ _ l0_3 t297 true _ ?side1 ?side2 ?side3 ?side4 A30.out).mono ?_); (case side1 => repeat (first | exact (Kd.C_below HR0_2.out HB.out) | (with_reducible refine Kd.C_alloc ?_ _) | (with_reducible refine Kd.C_drewN ?_ _) | (with_reducible refine Kd.C_drew ?_))); (case side2 => exact HC0_2.out); (case side3 => repeat (first | exact (Kd.C_below HR0_3.out HB.out) | (with_reducible refine Kd.C_alloc ?_ _) | (with_reducible refine Kd.C_drewN ?_ _) | (with_reducible refine Kd.C_drew ?_))); (case side4 => exact HC0_3.out); rintro e w34 ⟨rfl, hb⟩; have n0_ := Aside0.mk (blk_below (g := gb296) (o := .cells #[.int .i64 a0_0, .int .i64 a0_1, .slice A0_2 l0_2.length c0_2, .slice A0_3 l0_3.length c0_3] 25 (0, 0)) (uB BK296.out) hb); have n1_ := Aside0.mk (below_step (by repeat (first | (with_reducible first | exact HB.out | apply below_alloc | apply pw_below_drewN | apply below_drew1 | refine below_set ?_ GE296.out) | exact HB.out)) hb); clear BK296; clear HB; have BK296 := n0_; have HB := n1_; clear n0_ n1_; (try clear hb); (try clear hb2); (try clear hk); (try clear hi)) | (go_at_call 16; (with_reducible refine (semigrouplaw07_awake.calls kj16  t306 _ A32.out).mono ?_); rintro e w35 ⟨rfl, hb⟩; have n0_ := Aside0.mk (blk_below (g := gb296) (o := .cells #[.int .i64 a0_0, .int .i64 a0_1, .slice A0_2 l0_2.length c0_2, .slice A0_3 l0_3.length c0_3] 25 (0, 0)) (uB BK296.out) hb); have n1_ := Aside0.mk (below_step (by repeat (first | (with_reducible first | exact HB.out | apply below_alloc | apply pw_below_drewN | apply below_drew1 | refine below_set ?_ GE296.out) | exact HB.out)) hb); clear BK296; clear HB; have BK296 := n0_; have HB := n1_; clear n0_ n1_; (try clear hb); (try clear hb2); (try clear hk); (try clear hi)))
     go_ret
     exact ⟨by first | rfl | (simp [errW_none, errW_some] <;> rfl) | (simp [*, errW_none, errW_some] <;> rfl), by repeat (first | (with_reducible first | exact HB.out | apply below_alloc | apply pw_below_drewN | apply below_drew1 | refine below_set ?_ GE296.out) | exact HB.out)⟩
     )
     (focus
     replace c31 := Bool.eq_false_iff.mpr c31
     subst c31
     have H1 : (some false) = some r := by rw [if_neg (show ¬ (false = true) by decide)] at H; exact H
     clear H
     have H := H1
     clear H1
     obtain rfl := Option.some.inj H
     have hcz36_0 : wc.cell? ⟨gb296, 0, none⟩ = some (.int .i64 a0_0) := (blk_cell BK296.out 0).trans rfl
     have hcz36_1 : wc.cell? ⟨gb296, 1, none⟩ = some (.int .i64 a0_1) := (blk_cell BK296.out 1).trans rfl
     have hcz36_2 : wc.cell? ⟨gb296, 2, none⟩ = some (.slice A0_2 l0_2.length c0_2) := (blk_cell BK296.out 2).trans rfl
     have hcz36_3 : wc.cell? ⟨gb296, 3, none⟩ = some (.slice A0_3 l0_3.length c0_3) := (blk_cell BK296.out 3).trans rfl
     have hfz36_0 := blk_frozen BK296.out 0
     have hfz36_1 := blk_frozen BK296.out 1
     have hfz36_2 := blk_frozen BK296.out 2
     have hfz36_3 := blk_frozen BK296.out 3
     go_wp2_with (first | (go_at_call 24; (with_reducible refine (dfa_Accepts.calls kj16 a0_0 a0_1 _ _ l0_2 _ _ l0_3 t297 false _ ?side1 ?side2 ?side3 ?side4 A30.out).mono ?_); (case side1 => repeat (first | exact (Kd.C_below HR0_2.out HB.out) | (with_reducible refine Kd.C_alloc ?_ _) | (with_reducible refine Kd.C_drewN ?_ _) | (with_reducible refine Kd.C_drew ?_))); (case side2 => exact HC0_2.out); (case side3 => repeat (first | exact (Kd.C_below HR0_3.out HB.out) | (with_reducible refine Kd.C_alloc ?_ _) | (with_reducible refine Kd.C_drewN ?_ _) | (with_reducible refine Kd.C_drew ?_))); (case side4 => exact HC0_3.out); rintro e w37 ⟨rfl, hb⟩; have n0_ := Aside0.mk (blk_below (g := gb296) (o := .cells #[.int .i64 a0_0, .int .i64 a0_1, .slice A0_2 l0_2.length c0_2, .slice A0_3 l0_3.length c0_3] 25 (0, 0)) (uB BK296.out) hb); have n1_ := Aside0.mk (below_step (by repeat (first | (with_reducible first | exact HB.out | apply below_alloc | apply pw_below_drewN | apply below_drew1 | refine below_set ?_ GE296.out) | exact HB.out)) hb); clear BK296; clear HB; have BK296 := n0_; have HB := n1_; clear n0_ n1_; (try clear hb); (try clear hb2); (try clear hk); (try clear hi)))
     go_ret
     exact ⟨by first | rfl | (simp [errW_none, errW_some] <;> rfl) | (simp [*, errW_none, errW_some] <;> rfl), by repeat (first | (with_reducible first | exact HB.out | apply below_alloc | apply pw_below_drewN | apply below_drew1 | refine below_set ?_ GE296.out) | exact HB.out)⟩
     )
     )
     (focus
     replace c29 := Bool.eq_false_iff.mpr c29
     subst c29
     have H1 : ((semigrouplaw07_awake.f kj16).bind fun t307 => (some t307)) = some r := by rw [if_neg (show ¬ (false = true) by decide)] at H; exact H
     clear H
     have H := H1
     clear H1
     replace H := Option.bind_eq_some_iff.mp H
     obtain ⟨t307, A380, H⟩ := H
     replace H : (some t307) = some r := H
     have A38 := Aside0.mk A380
     clear A380
     obtain rfl := Option.some.inj H
     go_wp2_with (first | (go_at_call 16; (with_reducible refine (semigrouplaw07_awake.calls kj16  t307 _ A38.out).mono ?_); rintro e w39 ⟨rfl, hb⟩; have n0_ := Aside0.mk (blk_below (g := gb296) (o := .cells #[.int .i64 a0_0, .int .i64 a0_1, .slice A0_2 l0_2.length c0_2, .slice A0_3 l0_3.length c0_3] 25 (0, 0)) (uB BK296.out) hb); have n1_ := Aside0.mk (below_step (by repeat (first | (with_reducible first | exact HB.out | apply below_alloc | apply pw_below_drewN | apply below_drew1 | refine below_set ?_ GE296.out) | exact HB.out)) hb); clear BK296; clear HB; have BK296 := n0_; have HB := n1_; clear n0_ n1_; (try clear hb); (try clear hb2); (try clear hk); (try clear hi)))
     go_ret
     exact ⟨by first | rfl | (simp [errW_none, errW_some] <;> rfl) | (simp [*, errW_none, errW_some] <;> rfl), by repeat (first | (with_reducible first | exact HB.out | apply below_alloc | apply pw_below_drewN | apply below_drew1 | refine below_set ?_ GE296.out) | exact HB.out)⟩
     )
     )
   )
 )
 (focus
 replace c5 := Bool.eq_false_iff.mpr c5
 subst c5
 have H1 : (if t297.toList = ([] : List UInt8) then (if t298 = true then (some false) else ((semigrouplaw07_awake.f k).bind fun t300 => (some t300))) else (some false)) = some r := by rw [if_neg (show ¬ (false = true) by decide)] at H; exact H
 clear H
 have H := H1
 clear H1
 by_cases c40 : t297.toList = ([] : List UInt8)
 (focus
 rw [if_pos c40] at H
 have c40b0 : (t297.toList == ([] : List UInt8)) = true := beq_iff_eq.mpr c40
 have c40b1 : (t297.toList != ([] : List UInt8)) = false := bne_eq_false_iff_eq.mpr c40
 clear c40
 by_cases c41 : t298 = true
 (focus
 subst c41
 have H1 : (some false) = some r := by rw [if_pos rfl] at H; exact H
 clear H
 have H := H1
 clear H1
 obtain rfl := Option.some.inj H
 go_enter Try.func10, Try.ntmps10
 go_wp2_with (first | ((with_reducible refine gate_dst (N := 2) rfl ?_); refine box_event ?hg (N := 2) ?hd (cs := #[.int .i64 a0_0, .int .i64 a0_1, .slice A0_2 l0_2.length c0_2, .slice A0_3 l0_3.length c0_3]) (t := 25) ?hr ?_; (case hd => rfl); (case hg => rfl); (case hr => first | (go_simp; done) | (go_simp; rfl)); intro gb296 hg w42 hbox hb; have n0_ := Aside0.mk (below_step (by repeat (first | (with_reducible first | exact HB.out | apply below_alloc | apply pw_below_drewN | apply below_drew1) | exact HB.out)) hb); have n1_ := Aside0.mk (hbox); have n2_ := Aside0.mk ((by rw [hg]; exact (below_size (by repeat (first | (with_reducible first | exact HB.out | apply below_alloc | apply pw_below_drewN | apply below_drew1) | exact HB.out))) : w.heap.size ≤ gb296)); have n3_ := Aside0.mk ((by rw [hg]; exact (below_size (by repeat (first | (with_reducible first | exact HB.out | apply below_alloc | apply pw_below_drewN | apply below_drew1) | exact HB.out))) : w.heap.size ≤ gb296)); clear HB; have HB := n0_; have BK296 := n1_; have GW296 := n2_; have GE296 := n3_; clear n0_ n1_ n2_ n3_; clear hb hbox hg; have hcz43_0 : w42.cell? ⟨gb296, 0, none⟩ = some (.int .i64 a0_0) := (blk_cell BK296.out 0).trans rfl; have hcz43_1 : w42.cell? ⟨gb296, 1, none⟩ = some (.int .i64 a0_1) := (blk_cell BK296.out 1).trans rfl; have hcz43_2 : w42.cell? ⟨gb296, 2, none⟩ = some (.slice A0_2 l0_2.length c0_2) := (blk_cell BK296.out 2).trans rfl; have hcz43_3 : w42.cell? ⟨gb296, 3, none⟩ = some (.slice A0_3 l0_3.length c0_3) := (blk_cell BK296.out 3).trans rfl; have hfz43_0 := blk_frozen BK296.out 0; have hfz43_1 := blk_frozen BK296.out 1; have hfz43_2 := blk_frozen BK296.out 2; have hfz43_3 := blk_frozen BK296.out 3) | ((with_reducible refine gate_callee (f := 35) rfl ?_); refine goesL_ (some 11) rfl rfl Try.func35 (by kernel_rfl) rfl #[.agg #[.int .i64 a0_0, .int .i64 a0_1, .slice A0_2 l0_2.length c0_2, .slice A0_3 l0_3.length c0_3]] rfl (by (try simp only [List.map_toArray, List.map_cons, List.map_nil]); first | done | rfl | (simp only [List.length_drop, List.length_take]; rfl)) ?_; (with_reducible refine (dfa_Shortest.calls k a0_0 a0_1 _ _ l0_2 _ _ l0_3 t297 true _ ?side1 ?side2 ?side3 ?side4 A3.out).mono ?_); (case side1 => repeat (first | exact (Kd.C_below HR0_2.out HB.out) | (with_reducible refine Kd.C_alloc ?_ _) | (with_reducible refine Kd.C_drewN ?_ _) | (with_reducible refine Kd.C_drew ?_))); (case side2 => exact HC0_2.out); (case side3 => repeat (first | exact (Kd.C_below HR0_3.out HB.out) | (with_reducible refine Kd.C_alloc ?_ _) | (with_reducible refine Kd.C_drewN ?_ _) | (with_reducible refine Kd.C_drew ?_))); (case side4 => exact HC0_3.out); rintro e w44 ⟨rfl, hb⟩; refine ⟨_, rfl, ?_⟩; have n0_ := Aside0.mk (blk_below (g := gb296) (o := .cells #[.int .i64 a0_0, .int .i64 a0_1, .slice A0_2 l0_2.length c0_2, .slice A0_3 l0_3.length c0_3] 25 (0, 0)) (uB BK296.out) hb); have n1_ := Aside0.mk (below_step (by repeat (first | (with_reducible first | exact HB.out | apply below_alloc | apply pw_below_drewN | apply below_drew1 | refine below_set ?_ GE296.out) | exact HB.out)) hb); clear BK296; clear HB; have BK296 := n0_; have HB := n1_; clear n0_ n1_; (try clear hb); (try clear hb2); (try clear hk); (try clear hi); have hcz45_0 : w44.cell? ⟨gb296, 0, none⟩ = some (.int .i64 a0_0) := (blk_cell BK296.out 0).trans rfl; have hcz45_1 : w44.cell? ⟨gb296, 1, none⟩ = some (.int .i64 a0_1) := (blk_cell BK296.out 1).trans rfl; have hcz45_2 : w44.cell? ⟨gb296, 2, none⟩ = some (.slice A0_2 l0_2.length c0_2) := (blk_cell BK296.out 2).trans rfl; have hcz45_3 : w44.cell? ⟨gb296, 3, none⟩ = some (.slice A0_3 l0_3.length c0_3) := (blk_cell BK296.out 3).trans rfl; have hfz45_0 := blk_frozen BK296.out 0; have hfz45_1 := blk_frozen BK296.out 1; have hfz45_2 := blk_frozen BK296.out 2; have hfz45_3 := blk_frozen BK296.out 3) | ((with_reducible refine gate_callee (f := 17) rfl ?_); refine goesL_ (some 15) rfl rfl Try.func17 (by kernel_rfl) rfl #[.agg #[.int .i64 a0_0, .int .i64 a0_1, .slice A0_2 l0_2.length c0_2, .slice A0_3 l0_3.length c0_3]] rfl (by (try simp only [List.map_toArray, List.map_cons, List.map_nil]); first | done | rfl | (simp only [List.length_drop, List.length_take]; rfl)) ?_; (with_reducible refine (semigrouplaw07_valid.calls k a0_0 a0_1 _ _ l0_2 _ _ l0_3 false _ ?side1 ?side2 ?side3 ?side4 A4.out).mono ?_); (case side1 => repeat (first | exact (Kd.C_below HR0_2.out HB.out) | (with_reducible refine Kd.C_alloc ?_ _) | (with_reducible refine Kd.C_drewN ?_ _) | (with_reducible refine Kd.C_drew ?_))); (case side2 => exact HC0_2.out); (case side3 => repeat (first | exact (Kd.C_below HR0_3.out HB.out) | (with_reducible refine Kd.C_alloc ?_ _) | (with_reducible refine Kd.C_drewN ?_ _) | (with_reducible refine Kd.C_drew ?_))); (case side4 => exact HC0_3.out); rintro e w46 ⟨rfl, hb⟩; refine ⟨_, rfl, ?_⟩; have n0_ := Aside0.mk (blk_below (g := gb296) (o := .cells #[.int .i64 a0_0, .int .i64 a0_1, .slice A0_2 l0_2.length c0_2, .slice A0_3 l0_3.length c0_3] 25 (0, 0)) (uB BK296.out) hb); have n1_ := Aside0.mk (below_step (by repeat (first | (with_reducible first | exact HB.out | apply below_alloc | apply pw_below_drewN | apply below_drew1 | refine below_set ?_ GE296.out) | exact HB.out)) hb); clear BK296; clear HB; have BK296 := n0_; have HB := n1_; clear n0_ n1_; (try clear hb); (try clear hb2); (try clear hk); (try clear hi)))
 go_ret
 exact ⟨by first | rfl | (simp [errW_none, errW_some] <;> rfl) | (simp [*, errW_none, errW_some] <;> rfl), by repeat (first | (with_reducible first | exact HB.out | apply below_alloc | apply pw_below_drewN | apply below_drew1 | refine below_set ?_ GE296.out) | exact HB.out)⟩
 )
 (focus
 replace c41 := Bool.eq_false_iff.mpr c41
 subst c41
 have H1 : ((semigrouplaw07_awake.f k).bind fun t300 => (some t300)) = some r := by rw [if_neg (show ¬ (false = true) by decide)] at H; exact H
 clear H
 have H := H1
 clear H1
 replace H := Option.bind_eq_some_iff.mp H
 obtain ⟨t300, A470, H⟩ := H
 replace H : (some t300) = some r := H
 have A47 := Aside0.mk A470
 clear A470
 obtain rfl := Option.some.inj H
 go_enter Try.func10, Try.ntmps10
 go_wp2_with (first | ((with_reducible refine gate_dst (N := 2) rfl ?_); refine box_event ?hg (N := 2) ?hd (cs := #[.int .i64 a0_0, .int .i64 a0_1, .slice A0_2 l0_2.length c0_2, .slice A0_3 l0_3.length c0_3]) (t := 25) ?hr ?_; (case hd => rfl); (case hg => rfl); (case hr => first | (go_simp; done) | (go_simp; rfl)); intro gb296 hg w48 hbox hb; have n0_ := Aside0.mk (below_step (by repeat (first | (with_reducible first | exact HB.out | apply below_alloc | apply pw_below_drewN | apply below_drew1) | exact HB.out)) hb); have n1_ := Aside0.mk (hbox); have n2_ := Aside0.mk ((by rw [hg]; exact (below_size (by repeat (first | (with_reducible first | exact HB.out | apply below_alloc | apply pw_below_drewN | apply below_drew1) | exact HB.out))) : w.heap.size ≤ gb296)); have n3_ := Aside0.mk ((by rw [hg]; exact (below_size (by repeat (first | (with_reducible first | exact HB.out | apply below_alloc | apply pw_below_drewN | apply below_drew1) | exact HB.out))) : w.heap.size ≤ gb296)); clear HB; have HB := n0_; have BK296 := n1_; have GW296 := n2_; have GE296 := n3_; clear n0_ n1_ n2_ n3_; clear hb hbox hg; have hcz49_0 : w48.cell? ⟨gb296, 0, none⟩ = some (.int .i64 a0_0) := (blk_cell BK296.out 0).trans rfl; have hcz49_1 : w48.cell? ⟨gb296, 1, none⟩ = some (.int .i64 a0_1) := (blk_cell BK296.out 1).trans rfl; have hcz49_2 : w48.cell? ⟨gb296, 2, none⟩ = some (.slice A0_2 l0_2.length c0_2) := (blk_cell BK296.out 2).trans rfl; have hcz49_3 : w48.cell? ⟨gb296, 3, none⟩ = some (.slice A0_3 l0_3.length c0_3) := (blk_cell BK296.out 3).trans rfl; have hfz49_0 := blk_frozen BK296.out 0; have hfz49_1 := blk_frozen BK296.out 1; have hfz49_2 := blk_frozen BK296.out 2; have hfz49_3 := blk_frozen BK296.out 3) | ((with_reducible refine gate_callee (f := 35) rfl ?_); refine goesL_ (some 11) rfl rfl Try.func35 (by kernel_rfl) rfl #[.agg #[.int .i64 a0_0, .int .i64 a0_1, .slice A0_2 l0_2.length c0_2, .slice A0_3 l0_3.length c0_3]] rfl (by (try simp only [List.map_toArray, List.map_cons, List.map_nil]); first | done | rfl | (simp only [List.length_drop, List.length_take]; rfl)) ?_; (with_reducible refine (dfa_Shortest.calls k a0_0 a0_1 _ _ l0_2 _ _ l0_3 t297 false _ ?side1 ?side2 ?side3 ?side4 A3.out).mono ?_); (case side1 => repeat (first | exact (Kd.C_below HR0_2.out HB.out) | (with_reducible refine Kd.C_alloc ?_ _) | (with_reducible refine Kd.C_drewN ?_ _) | (with_reducible refine Kd.C_drew ?_))); (case side2 => exact HC0_2.out); (case side3 => repeat (first | exact (Kd.C_below HR0_3.out HB.out) | (with_reducible refine Kd.C_alloc ?_ _) | (with_reducible refine Kd.C_drewN ?_ _) | (with_reducible refine Kd.C_drew ?_))); (case side4 => exact HC0_3.out); rintro e w50 ⟨rfl, hb⟩; refine ⟨_, rfl, ?_⟩; have n0_ := Aside0.mk (blk_below (g := gb296) (o := .cells #[.int .i64 a0_0, .int .i64 a0_1, .slice A0_2 l0_2.length c0_2, .slice A0_3 l0_3.length c0_3] 25 (0, 0)) (uB BK296.out) hb); have n1_ := Aside0.mk (below_step (by repeat (first | (with_reducible first | exact HB.out | apply below_alloc | apply pw_below_drewN | apply below_drew1 | refine below_set ?_ GE296.out) | exact HB.out)) hb); clear BK296; clear HB; have BK296 := n0_; have HB := n1_; clear n0_ n1_; (try clear hb); (try clear hb2); (try clear hk); (try clear hi); have hcz51_0 : w50.cell? ⟨gb296, 0, none⟩ = some (.int .i64 a0_0) := (blk_cell BK296.out 0).trans rfl; have hcz51_1 : w50.cell? ⟨gb296, 1, none⟩ = some (.int .i64 a0_1) := (blk_cell BK296.out 1).trans rfl; have hcz51_2 : w50.cell? ⟨gb296, 2, none⟩ = some (.slice A0_2 l0_2.length c0_2) := (blk_cell BK296.out 2).trans rfl; have hcz51_3 : w50.cell? ⟨gb296, 3, none⟩ = some (.slice A0_3 l0_3.length c0_3) := (blk_cell BK296.out 3).trans rfl; have hfz51_0 := blk_frozen BK296.out 0; have hfz51_1 := blk_frozen BK296.out 1; have hfz51_2 := blk_frozen BK296.out 2; have hfz51_3 := blk_frozen BK296.out 3) | ((with_reducible refine gate_callee (f := 17) rfl ?_); refine goesL_ (some 15) rfl rfl Try.func17 (by kernel_rfl) rfl #[.agg #[.int .i64 a0_0, .int .i64 a0_1, .slice A0_2 l0_2.length c0_2, .slice A0_3 l0_3.length c0_3]] rfl (by (try simp only [List.map_toArray, List.map_cons, List.map_nil]); first | done | rfl | (simp only [List.length_drop, List.length_take]; rfl)) ?_; (with_reducible refine (semigrouplaw07_valid.calls k a0_0 a0_1 _ _ l0_2 _ _ l0_3 false _ ?side1 ?side2 ?side3 ?side4 A4.out).mono ?_); (case side1 => repeat (first | exact (Kd.C_below HR0_2.out HB.out) | (with_reducible refine Kd.C_alloc ?_ _) | (with_reducible refine Kd.C_drewN ?_ _) | (with_reducible refine Kd.C_drew ?_))); (case side2 => exact HC0_2.out); (case side3 => repeat (first | exact (Kd.C_below HR0_3.out HB.out) | (with_reducible refine Kd.C_alloc ?_ _) | (with_reducible refine Kd.C_drewN ?_ _) | (with_reducible refine Kd.C_drew ?_))); (case side4 => exact HC0_3.out); rintro e w52 ⟨rfl, hb⟩; refine ⟨_, rfl, ?_⟩; have n0_ := Aside0.mk (blk_below (g := gb296) (o := .cells #[.int .i64 a0_0, .int .i64 a0_1, .slice A0_2 l0_2.length c0_2, .slice A0_3 l0_3.length c0_3] 25 (0, 0)) (uB BK296.out) hb); have n1_ := Aside0.mk (below_step (by repeat (first | (with_reducible first | exact HB.out | apply below_alloc | apply pw_below_drewN | apply below_drew1 | refine below_set ?_ GE296.out) | exact HB.out)) hb); clear BK296; clear HB; have BK296 := n0_; have HB := n1_; clear n0_ n1_; (try clear hb); (try clear hb2); (try clear hk); (try clear hi)) | (go_at_call 16; (with_reducible refine (semigrouplaw07_awake.calls k  t300 _ A47.out).mono ?_); rintro e w53 ⟨rfl, hb⟩; have n0_ := Aside0.mk (blk_below (g := gb296) (o := .cells #[.int .i64 a0_0, .int .i64 a0_1, .slice A0_2 l0_2.length c0_2, .slice A0_3 l0_3.length c0_3] 25 (0, 0)) (uB BK296.out) hb); have n1_ := Aside0.mk (below_step (by repeat (first | (with_reducible first | exact HB.out | apply below_alloc | apply pw_below_drewN | apply below_drew1 | refine below_set ?_ GE296.out) | exact HB.out)) hb); clear BK296; clear HB; have BK296 := n0_; have HB := n1_; clear n0_ n1_; (try clear hb); (try clear hb2); (try clear hk); (try clear hi)))
 go_ret
 exact ⟨by first | rfl | (simp [errW_none, errW_some] <;> rfl) | (simp [*, errW_none, errW_some] <;> rfl), by repeat (first | (with_reducible first | exact HB.out | apply below_alloc | apply pw_below_drewN | apply below_drew1 | refine below_set ?_ GE296.out) | exact HB.out)⟩
 )
 )
 (focus
 rw [if_neg c40] at H
 have c40b0 : (t297.toList == ([] : List UInt8)) = false := beq_eq_false_iff_ne.mpr c40
 have c40b1 : (t297.toList != ([] : List UInt8)) = true := bne_iff_ne.mpr c40
 obtain rfl := Option.some.inj H
 go_enter Try.func10, Try.ntmps10
 go_wp2_with (first | ((with_reducible refine gate_dst (N := 2) rfl ?_); refine box_event ?hg (N := 2) ?hd (cs := #[.int .i64 a0_0, .int .i64 a0_1, .slice A0_2 l0_2.length c0_2, .slice A0_3 l0_3.length c0_3]) (t := 25) ?hr ?_; (case hd => rfl); (case hg => rfl); (case hr => first | (go_simp; done) | (go_simp; rfl)); intro gb296 hg w54 hbox hb; have n0_ := Aside0.mk (below_step (by repeat (first | (with_reducible first | exact HB.out | apply below_alloc | apply pw_below_drewN | apply below_drew1) | exact HB.out)) hb); have n1_ := Aside0.mk (hbox); have n2_ := Aside0.mk ((by rw [hg]; exact (below_size (by repeat (first | (with_reducible first | exact HB.out | apply below_alloc | apply pw_below_drewN | apply below_drew1) | exact HB.out))) : w.heap.size ≤ gb296)); have n3_ := Aside0.mk ((by rw [hg]; exact (below_size (by repeat (first | (with_reducible first | exact HB.out | apply below_alloc | apply pw_below_drewN | apply below_drew1) | exact HB.out))) : w.heap.size ≤ gb296)); clear HB; have HB := n0_; have BK296 := n1_; have GW296 := n2_; have GE296 := n3_; clear n0_ n1_ n2_ n3_; clear hb hbox hg; have hcz55_0 : w54.cell? ⟨gb296, 0, none⟩ = some (.int .i64 a0_0) := (blk_cell BK296.out 0).trans rfl; have hcz55_1 : w54.cell? ⟨gb296, 1, none⟩ = some (.int .i64 a0_1) := (blk_cell BK296.out 1).trans rfl; have hcz55_2 : w54.cell? ⟨gb296, 2, none⟩ = some (.slice A0_2 l0_2.length c0_2) := (blk_cell BK296.out 2).trans rfl; have hcz55_3 : w54.cell? ⟨gb296, 3, none⟩ = some (.slice A0_3 l0_3.length c0_3) := (blk_cell BK296.out 3).trans rfl; have hfz55_0 := blk_frozen BK296.out 0; have hfz55_1 := blk_frozen BK296.out 1; have hfz55_2 := blk_frozen BK296.out 2; have hfz55_3 := blk_frozen BK296.out 3) | ((with_reducible refine gate_callee (f := 35) rfl ?_); refine goesL_ (some 11) rfl rfl Try.func35 (by kernel_rfl) rfl #[.agg #[.int .i64 a0_0, .int .i64 a0_1, .slice A0_2 l0_2.length c0_2, .slice A0_3 l0_3.length c0_3]] rfl (by (try simp only [List.map_toArray, List.map_cons, List.map_nil]); first | done | rfl | (simp only [List.length_drop, List.length_take]; rfl)) ?_; (with_reducible refine (dfa_Shortest.calls k a0_0 a0_1 _ _ l0_2 _ _ l0_3 t297 t298 _ ?side1 ?side2 ?side3 ?side4 A3.out).mono ?_); (case side1 => repeat (first | exact (Kd.C_below HR0_2.out HB.out) | (with_reducible refine Kd.C_alloc ?_ _) | (with_reducible refine Kd.C_drewN ?_ _) | (with_reducible refine Kd.C_drew ?_))); (case side2 => exact HC0_2.out); (case side3 => repeat (first | exact (Kd.C_below HR0_3.out HB.out) | (with_reducible refine Kd.C_alloc ?_ _) | (with_reducible refine Kd.C_drewN ?_ _) | (with_reducible refine Kd.C_drew ?_))); (case side4 => exact HC0_3.out); rintro e w56 ⟨rfl, hb⟩; refine ⟨_, rfl, ?_⟩; have n0_ := Aside0.mk (blk_below (g := gb296) (o := .cells #[.int .i64 a0_0, .int .i64 a0_1, .slice A0_2 l0_2.length c0_2, .slice A0_3 l0_3.length c0_3] 25 (0, 0)) (uB BK296.out) hb); have n1_ := Aside0.mk (below_step (by repeat (first | (with_reducible first | exact HB.out | apply below_alloc | apply pw_below_drewN | apply below_drew1 | refine below_set ?_ GE296.out) | exact HB.out)) hb); clear BK296; clear HB; have BK296 := n0_; have HB := n1_; clear n0_ n1_; (try clear hb); (try clear hb2); (try clear hk); (try clear hi); have hcz57_0 : w56.cell? ⟨gb296, 0, none⟩ = some (.int .i64 a0_0) := (blk_cell BK296.out 0).trans rfl; have hcz57_1 : w56.cell? ⟨gb296, 1, none⟩ = some (.int .i64 a0_1) := (blk_cell BK296.out 1).trans rfl; have hcz57_2 : w56.cell? ⟨gb296, 2, none⟩ = some (.slice A0_2 l0_2.length c0_2) := (blk_cell BK296.out 2).trans rfl; have hcz57_3 : w56.cell? ⟨gb296, 3, none⟩ = some (.slice A0_3 l0_3.length c0_3) := (blk_cell BK296.out 3).trans rfl; have hfz57_0 := blk_frozen BK296.out 0; have hfz57_1 := blk_frozen BK296.out 1; have hfz57_2 := blk_frozen BK296.out 2; have hfz57_3 := blk_frozen BK296.out 3) | ((with_reducible refine gate_callee (f := 17) rfl ?_); refine goesL_ (some 15) rfl rfl Try.func17 (by kernel_rfl) rfl #[.agg #[.int .i64 a0_0, .int .i64 a0_1, .slice A0_2 l0_2.length c0_2, .slice A0_3 l0_3.length c0_3]] rfl (by (try simp only [List.map_toArray, List.map_cons, List.map_nil]); first | done | rfl | (simp only [List.length_drop, List.length_take]; rfl)) ?_; (with_reducible refine (semigrouplaw07_valid.calls k a0_0 a0_1 _ _ l0_2 _ _ l0_3 false _ ?side1 ?side2 ?side3 ?side4 A4.out).mono ?_); (case side1 => repeat (first | exact (Kd.C_below HR0_2.out HB.out) | (with_reducible refine Kd.C_alloc ?_ _) | (with_reducible refine Kd.C_drewN ?_ _) | (with_reducible refine Kd.C_drew ?_))); (case side2 => exact HC0_2.out); (case side3 => repeat (first | exact (Kd.C_below HR0_3.out HB.out) | (with_reducible refine Kd.C_alloc ?_ _) | (with_reducible refine Kd.C_drewN ?_ _) | (with_reducible refine Kd.C_drew ?_))); (case side4 => exact HC0_3.out); rintro e w58 ⟨rfl, hb⟩; refine ⟨_, rfl, ?_⟩; have n0_ := Aside0.mk (blk_below (g := gb296) (o := .cells #[.int .i64 a0_0, .int .i64 a0_1, .slice A0_2 l0_2.length c0_2, .slice A0_3 l0_3.length c0_3] 25 (0, 0)) (uB BK296.out) hb); have n1_ := Aside0.mk (below_step (by repeat (first | (with_reducible first | exact HB.out | apply below_alloc | apply pw_below_drewN | apply below_drew1 | refine below_set ?_ GE296.out) | exact HB.out)) hb); clear BK296; clear HB; have BK296 := n0_; have HB := n1_; clear n0_ n1_; (try clear hb); (try clear hb2); (try clear hk); (try clear hi)))
 go_ret
 exact ⟨by first | rfl | (simp [errW_none, errW_some] <;> rfl) | (simp [*, errW_none, errW_some] <;> rfl), by repeat (first | (with_reducible first | exact HB.out | apply below_alloc | apply pw_below_drewN | apply below_drew1 | refine below_set ?_ GE296.out) | exact HB.out)⟩
 )
 )
end Go.Proofs.Ytpjbmgoagehjkaa.PDfaShortest
