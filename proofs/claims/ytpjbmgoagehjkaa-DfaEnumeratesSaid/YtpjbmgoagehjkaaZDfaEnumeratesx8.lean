import Derived.Test.YtpjbmgoagehjkaaZDfaEnumeratesx0
import Derived.Test.YtpjbmgoagehjkaaZDfaEnumeratesx3
import Derived.Test.YtpjbmgoagehjkaaZDfaEnumeratesx4
import Derived.Test.YtpjbmgoagehjkaaZDfaEnumeratesx5
import Derived.Test.YtpjbmgoagehjkaaZDfaEnumeratesx6
import Derived.Test.YtpjbmgoagehjkaaZDfaEnumeratesx7
namespace Go.Proofs.Ytpjbmgoagehjkaa.PDfaEnumerates
open Go.RowKit Go.Proofs.YtpjbmgoagehjkaaH Go.Proofs.YtpjbmgoagehjkaaW.PrintWords Go.Proofs.YtpjbmgoagehjkaaW.PrintLast Go.Proofs.YtpjbmgoagehjkaaW.PrintMore
attribute [local go_sem] max2_int min2_int max_two min_two max_three min_three max_four min_four   -- for this text's walks alone
set_option linter.unusedVariables false
set_option linter.unusedSimpArgs false
/-! ### semigrouplaw07_DfaEnumerates: function 9 -/
mutual
def semigrouplaw07_DfaEnumerates.l0 : Nat → ByteArray → List ByteArray → Bool → List Int → List ByteArray → Int → Int → Int → Int → List Bool → List (List Int) → Option (Bool)
 | 0, _, _, _, _, _, _, _, _, _, _, _ => none
 | k + 1, x1, x5, x6, x7, x18, x19, x20, x217000, x217001, x217002, x217003 => if x20 < x19 then (if 0 ≤ x20 then (if x20 < (x18.length : Int) then ((dfa_Accepts.f k x217000 x217001 x217002 x217003 (rdOf ByteArray.empty x18 x20)).bind fun t226 => (if t226 = true then (if x20 > 0 then (if 0 ≤ (wrap64 (x20 - 1)) then (if (wrap64 (x20 - 1)) < (x5.length : Int) then ((semigroupref01_Compare.f k (rdOf ByteArray.empty x5 (wrap64 (x20 - 1))) (rdOf ByteArray.empty x18 x20)).bind fun t228 => (semigrouplaw07_DfaEnumerates.j1 k x1 x5 x6 x7 (rdOf ByteArray.empty x18 x20) x18 x19 x20 (decide (t228 ≥ 0)) x217000 x217001 x217002 x217003)) else (none)) else (none)) else (semigrouplaw07_DfaEnumerates.j1 k x1 x5 x6 x7 (rdOf ByteArray.empty x18 x20) x18 x19 x20 false x217000 x217001 x217002 x217003)) else (semigrouplaw07_DfaEnumerates.j1 k x1 x5 x6 x7 (rdOf ByteArray.empty x18 x20) x18 x19 x20 true x217000 x217001 x217002 x217003))) else (none)) else (none)) else (if (x5.length : Int) > 40 then (semigrouplaw07_DfaEnumerates.j2 k x5 x7 true x217000 x217001 x217002 x217003) else ((dfa_Accepts.f k x217000 x217001 x217002 x217003 x1).bind fun t233 => (if t233 = true then (if x6 = true then (semigrouplaw07_DfaEnumerates.j2 k x5 x7 false x217000 x217001 x217002 x217003) else (if (x5.length : Int) < 40 then (semigrouplaw07_DfaEnumerates.j2 k x5 x7 (decide ((x1.size : Int) ≤ 2048)) x217000 x217001 x217002 x217003) else (if 0 ≤ (wrap64 ((x5.length : Int) - 1)) then (if (wrap64 ((x5.length : Int) - 1)) < (x5.length : Int) then ((semigroupref01_Compare.f k x1 (rdOf ByteArray.empty x5 (wrap64 ((x5.length : Int) - 1)))).bind fun t235 => (if t235 < 0 then (semigrouplaw07_DfaEnumerates.j2 k x5 x7 (decide ((x1.size : Int) ≤ 2048)) x217000 x217001 x217002 x217003) else (semigrouplaw07_DfaEnumerates.j2 k x5 x7 false x217000 x217001 x217002 x217003))) else (none)) else (none)))) else (semigrouplaw07_DfaEnumerates.j2 k x5 x7 false x217000 x217001 x217002 x217003))))
def semigrouplaw07_DfaEnumerates.j1 : Nat → ByteArray → List ByteArray → Bool → List Int → ByteArray → List ByteArray → Int → Int → Bool → Int → Int → List Bool → List (List Int) → Option (Bool)
 | 0, _, _, _, _, _, _, _, _, _, _, _, _, _ => none
 | k + 1, x1, x5, x6, x7, x9, x18, x19, x20, x42, x217000, x217001, x217002, x217003 => if x42 = true then (some false) else (if x6 = true then (if (x9.size : Int) < (x7.length : Int) then (if 0 ≤ (x9.size : Int) then (semigrouplaw07_DfaEnumerates.l0 k x1 x5 true (x7.set ((x9.size : Int) : Int).toNat (wrap64 ((rd x7 (x9.size : Int)) + 1))) x18 x19 (wrap64 (x20 + 1)) x217000 x217001 x217002 x217003) else (none)) else (semigrouplaw07_DfaEnumerates.l0 k x1 x5 true x7 x18 x19 (wrap64 (x20 + 1)) x217000 x217001 x217002 x217003)) else (if (x9.size : Int) < (x7.length : Int) then (if 0 ≤ (x9.size : Int) then (semigrouplaw07_DfaEnumerates.l0 k x1 x5 (x9.toList == x1.toList) (x7.set ((x9.size : Int) : Int).toNat (wrap64 ((rd x7 (x9.size : Int)) + 1))) x18 x19 (wrap64 (x20 + 1)) x217000 x217001 x217002 x217003) else (none)) else (semigrouplaw07_DfaEnumerates.l0 k x1 x5 (x9.toList == x1.toList) x7 x18 x19 (wrap64 (x20 + 1)) x217000 x217001 x217002 x217003)))
def semigrouplaw07_DfaEnumerates.j2 : Nat → List ByteArray → List Int → Bool → Int → Int → List Bool → List (List Int) → Option (Bool)
 | 0, _, _, _, _, _, _, _ => none
 | k + 1, x5, x7, x94, x217000, x217001, x217002, x217003 => if x94 = true then (some false) else (semigrouplaw07_DfaEnumerates.l1 k x5 x7 (x7.length : Int) 0 x217000 x217001 x217002 x217003)
def semigrouplaw07_DfaEnumerates.l1 : Nat → List ByteArray → List Int → Int → Int → Int → Int → List Bool → List (List Int) → Option (Bool)
 | 0, _, _, _, _, _, _, _, _ => none
 | k + 1, x5, x7, x96, x97, x217000, x217001, x217002, x217003 => if x97 < x96 then (if (x5.length : Int) < 40 then ((dfa_Count.f k x217000 x217001 x217002 x217003 x97).bind fun t237 => (if 0 ≤ x97 then (if x97 < (x7.length : Int) then (if t237 = (rd x7 x97) then (semigrouplaw07_DfaEnumerates.l1 k x5 x7 x96 (wrap64 (x97 + 1)) x217000 x217001 x217002 x217003) else (some false)) else (none)) else (none))) else (if 0 ≤ (wrap64 ((x5.length : Int) - 1)) then (if (wrap64 ((x5.length : Int) - 1)) < (x5.length : Int) then (if ((rdOf ByteArray.empty x5 (wrap64 ((x5.length : Int) - 1))).size : Int) > x97 then ((dfa_Count.f k x217000 x217001 x217002 x217003 x97).bind fun t240 => (if 0 ≤ x97 then (if x97 < (x7.length : Int) then (if t240 = (rd x7 x97) then (semigrouplaw07_DfaEnumerates.l1 k x5 x7 x96 (wrap64 (x97 + 1)) x217000 x217001 x217002 x217003) else (some false)) else (none)) else (none))) else (semigrouplaw07_DfaEnumerates.l1 k x5 x7 x96 (wrap64 (x97 + 1)) x217000 x217001 x217002 x217003)) else (none)) else (none))) else ((semigrouplaw07_awake.f k).bind fun t236 => (some t236))
end
def semigrouplaw07_DfaEnumerates.f (k : Nat) (a0_0 : Int) (a0_1 : Int) (l0_2 : List Bool) (l0_3 : List (List Int)) (a1 : ByteArray) : Option (Bool) := (semigrouplaw07_small.f k a0_0 a0_1 l0_2 l0_3 8).bind fun t217 => (if t217 = true then ((dfa_Words.f k a0_0 a0_1 l0_2 l0_3 40).bind fun t219 => (if 9 ≤ 35184372088832 then (semigrouplaw07_DfaEnumerates.l0 k a1 t219 false (List.replicate 9 0) t219 (t219.length : Int) 0 a0_0 a0_1 l0_2 l0_3) else (none))) else ((semigrouplaw07_awake.f k).bind fun t218 => (some t218)))
theorem semigrouplaw07_DfaEnumerates.mono_l : ∀ k, (∀ y0 y1 y2 y3 y4 y5 y6 y7 y8 y9 y10, LeO (semigrouplaw07_DfaEnumerates.l0 k y0 y1 y2 y3 y4 y5 y6 y7 y8 y9 y10) (semigrouplaw07_DfaEnumerates.l0 (k + 1) y0 y1 y2 y3 y4 y5 y6 y7 y8 y9 y10)) ∧ (∀ y0 y1 y2 y3 y4 y5 y6 y7 y8 y9 y10 y11 y12, LeO (semigrouplaw07_DfaEnumerates.j1 k y0 y1 y2 y3 y4 y5 y6 y7 y8 y9 y10 y11 y12) (semigrouplaw07_DfaEnumerates.j1 (k + 1) y0 y1 y2 y3 y4 y5 y6 y7 y8 y9 y10 y11 y12)) ∧ (∀ y0 y1 y2 y3 y4 y5 y6, LeO (semigrouplaw07_DfaEnumerates.j2 k y0 y1 y2 y3 y4 y5 y6) (semigrouplaw07_DfaEnumerates.j2 (k + 1) y0 y1 y2 y3 y4 y5 y6)) ∧ (∀ y0 y1 y2 y3 y4 y5 y6 y7, LeO (semigrouplaw07_DfaEnumerates.l1 k y0 y1 y2 y3 y4 y5 y6 y7) (semigrouplaw07_DfaEnumerates.l1 (k + 1) y0 y1 y2 y3 y4 y5 y6 y7))
 | 0 => ⟨fun _ _ _ _ _ _ _ _ _ _ _ r h => by simp [semigrouplaw07_DfaEnumerates.l0] at h, fun _ _ _ _ _ _ _ _ _ _ _ _ _ r h => by simp [semigrouplaw07_DfaEnumerates.j1] at h, fun _ _ _ _ _ _ _ r h => by simp [semigrouplaw07_DfaEnumerates.j2] at h, fun _ _ _ _ _ _ _ _ r h => by simp [semigrouplaw07_DfaEnumerates.l1] at h⟩
 | k + 1 => by
  obtain ⟨ih0, ih1, ih2, ih3⟩ := semigrouplaw07_DfaEnumerates.mono_l k
  refine ⟨?_, ?_, ?_, ?_⟩
  (focus
  intro y0 y1 y2 y3 y4 y5 y6 y7 y8 y9 y10
  unfold semigrouplaw07_DfaEnumerates.l0
  repeat' first
  | (with_reducible exact ih0 _ _ _ _ _ _ _ _ _ _ _)
  | (with_reducible exact ih1 _ _ _ _ _ _ _ _ _ _ _ _ _)
  | (with_reducible exact ih2 _ _ _ _ _ _ _)
  | (with_reducible exact ih3 _ _ _ _ _ _ _ _)
  | (with_reducible exact dfa_Accepts.mono _ _ _ _ _ _)
  | (with_reducible exact dfa_Count.mono _ _ _ _ _ _)
  | (with_reducible exact dfa_Words.mono _ _ _ _ _ _)
  | (with_reducible exact semigrouplaw07_awake.mono _)
  | (with_reducible exact semigrouplaw07_small.mono _ _ _ _ _ _)
  | (with_reducible exact semigroupref01_Compare.mono _ _ _)
  | (with_reducible exact LeO.refl _)
  | (with_reducible exact LeO.none _)
  | (with_reducible refine LeO.ite ?_ ?_)
  | (with_reducible refine LeO.bind ?_ (fun _ => ?_))
  | exact ih0 _ _ _ _ _ _ _ _ _ _ _
  | exact ih1 _ _ _ _ _ _ _ _ _ _ _ _ _
  | exact ih2 _ _ _ _ _ _ _
  | exact ih3 _ _ _ _ _ _ _ _
  | exact dfa_Accepts.mono _ _ _ _ _ _
  | exact dfa_Count.mono _ _ _ _ _ _
  | exact dfa_Words.mono _ _ _ _ _ _
  | exact semigrouplaw07_awake.mono _
  | exact semigrouplaw07_small.mono _ _ _ _ _ _
  | exact semigroupref01_Compare.mono _ _ _
  | exact LeO.none _
  | refine LeO.ite ?_ ?_
  | refine LeO.bind ?_ (fun _ => ?_)
  )
  (focus
  intro y0 y1 y2 y3 y4 y5 y6 y7 y8 y9 y10 y11 y12
  unfold semigrouplaw07_DfaEnumerates.j1
  repeat' first
  | (with_reducible exact ih0 _ _ _ _ _ _ _ _ _ _ _)
  | (with_reducible exact ih1 _ _ _ _ _ _ _ _ _ _ _ _ _)
  | (with_reducible exact ih2 _ _ _ _ _ _ _)
  | (with_reducible exact ih3 _ _ _ _ _ _ _ _)
  | (with_reducible exact dfa_Accepts.mono _ _ _ _ _ _)
  | (with_reducible exact dfa_Count.mono _ _ _ _ _ _)
  | (with_reducible exact dfa_Words.mono _ _ _ _ _ _)
  | (with_reducible exact semigrouplaw07_awake.mono _)
  | (with_reducible exact semigrouplaw07_small.mono _ _ _ _ _ _)
  | (with_reducible exact semigroupref01_Compare.mono _ _ _)
  | (with_reducible exact LeO.refl _)
  | (with_reducible exact LeO.none _)
  | (with_reducible refine LeO.ite ?_ ?_)
  | (with_reducible refine LeO.bind ?_ (fun _ => ?_))
  | exact ih0 _ _ _ _ _ _ _ _ _ _ _
  | exact ih1 _ _ _ _ _ _ _ _ _ _ _ _ _
  | exact ih2 _ _ _ _ _ _ _
  | exact ih3 _ _ _ _ _ _ _ _
  | exact dfa_Accepts.mono _ _ _ _ _ _
  | exact dfa_Count.mono _ _ _ _ _ _
  | exact dfa_Words.mono _ _ _ _ _ _
  | exact semigrouplaw07_awake.mono _
  | exact semigrouplaw07_small.mono _ _ _ _ _ _
  | exact semigroupref01_Compare.mono _ _ _
  | exact LeO.none _
  | refine LeO.ite ?_ ?_
  | refine LeO.bind ?_ (fun _ => ?_)
  )
  (focus
  intro y0 y1 y2 y3 y4 y5 y6
  unfold semigrouplaw07_DfaEnumerates.j2
  repeat' first
  | (with_reducible exact ih0 _ _ _ _ _ _ _ _ _ _ _)
  | (with_reducible exact ih1 _ _ _ _ _ _ _ _ _ _ _ _ _)
  | (with_reducible exact ih2 _ _ _ _ _ _ _)
  | (with_reducible exact ih3 _ _ _ _ _ _ _ _)
  | (with_reducible exact dfa_Accepts.mono _ _ _ _ _ _)
  | (with_reducible exact dfa_Count.mono _ _ _ _ _ _)
  | (with_reducible exact dfa_Words.mono _ _ _ _ _ _)
  | (with_reducible exact semigrouplaw07_awake.mono _)
  | (with_reducible exact semigrouplaw07_small.mono _ _ _ _ _ _)
  | (with_reducible exact semigroupref01_Compare.mono _ _ _)
  | (with_reducible exact LeO.refl _)
  | (with_reducible exact LeO.none _)
  | (with_reducible refine LeO.ite ?_ ?_)
  | (with_reducible refine LeO.bind ?_ (fun _ => ?_))
  | exact ih0 _ _ _ _ _ _ _ _ _ _ _
  | exact ih1 _ _ _ _ _ _ _ _ _ _ _ _ _
  | exact ih2 _ _ _ _ _ _ _
  | exact ih3 _ _ _ _ _ _ _ _
  | exact dfa_Accepts.mono _ _ _ _ _ _
  | exact dfa_Count.mono _ _ _ _ _ _
  | exact dfa_Words.mono _ _ _ _ _ _
  | exact semigrouplaw07_awake.mono _
  | exact semigrouplaw07_small.mono _ _ _ _ _ _
  | exact semigroupref01_Compare.mono _ _ _
  | exact LeO.none _
  | refine LeO.ite ?_ ?_
  | refine LeO.bind ?_ (fun _ => ?_)
  )
  (focus
  intro y0 y1 y2 y3 y4 y5 y6 y7
  unfold semigrouplaw07_DfaEnumerates.l1
  repeat' first
  | (with_reducible exact ih0 _ _ _ _ _ _ _ _ _ _ _)
  | (with_reducible exact ih1 _ _ _ _ _ _ _ _ _ _ _ _ _)
  | (with_reducible exact ih2 _ _ _ _ _ _ _)
  | (with_reducible exact ih3 _ _ _ _ _ _ _ _)
  | (with_reducible exact dfa_Accepts.mono _ _ _ _ _ _)
  | (with_reducible exact dfa_Count.mono _ _ _ _ _ _)
  | (with_reducible exact dfa_Words.mono _ _ _ _ _ _)
  | (with_reducible exact semigrouplaw07_awake.mono _)
  | (with_reducible exact semigrouplaw07_small.mono _ _ _ _ _ _)
  | (with_reducible exact semigroupref01_Compare.mono _ _ _)
  | (with_reducible exact LeO.refl _)
  | (with_reducible exact LeO.none _)
  | (with_reducible refine LeO.ite ?_ ?_)
  | (with_reducible refine LeO.bind ?_ (fun _ => ?_))
  | exact ih0 _ _ _ _ _ _ _ _ _ _ _
  | exact ih1 _ _ _ _ _ _ _ _ _ _ _ _ _
  | exact ih2 _ _ _ _ _ _ _
  | exact ih3 _ _ _ _ _ _ _ _
  | exact dfa_Accepts.mono _ _ _ _ _ _
  | exact dfa_Count.mono _ _ _ _ _ _
  | exact dfa_Words.mono _ _ _ _ _ _
  | exact semigrouplaw07_awake.mono _
  | exact semigrouplaw07_small.mono _ _ _ _ _ _
  | exact semigroupref01_Compare.mono _ _ _
  | exact LeO.none _
  | refine LeO.ite ?_ ?_
  | refine LeO.bind ?_ (fun _ => ?_)
  )
theorem semigrouplaw07_DfaEnumerates.mono : ∀ a0 a1 a2 a3 a4 k, LeO (semigrouplaw07_DfaEnumerates.f k a0 a1 a2 a3 a4) (semigrouplaw07_DfaEnumerates.f (k + 1) a0 a1 a2 a3 a4) := by
 intro a0 a1 a2 a3 a4 k
 obtain ⟨ih0, ih1, ih2, ih3⟩ := semigrouplaw07_DfaEnumerates.mono_l k
 unfold semigrouplaw07_DfaEnumerates.f
 repeat' first
  | (with_reducible exact ih0 _ _ _ _ _ _ _ _ _ _ _)
  | (with_reducible exact ih1 _ _ _ _ _ _ _ _ _ _ _ _ _)
  | (with_reducible exact ih2 _ _ _ _ _ _ _)
  | (with_reducible exact ih3 _ _ _ _ _ _ _ _)
  | (with_reducible exact dfa_Accepts.mono _ _ _ _ _ _)
  | (with_reducible exact dfa_Count.mono _ _ _ _ _ _)
  | (with_reducible exact dfa_Words.mono _ _ _ _ _ _)
  | (with_reducible exact semigrouplaw07_awake.mono _)
  | (with_reducible exact semigrouplaw07_small.mono _ _ _ _ _ _)
  | (with_reducible exact semigroupref01_Compare.mono _ _ _)
  | (with_reducible exact LeO.refl _)
  | (with_reducible exact LeO.none _)
  | (with_reducible refine LeO.ite ?_ ?_)
  | (with_reducible refine LeO.bind ?_ (fun _ => ?_))
  | exact ih0 _ _ _ _ _ _ _ _ _ _ _
  | exact ih1 _ _ _ _ _ _ _ _ _ _ _ _ _
  | exact ih2 _ _ _ _ _ _ _
  | exact ih3 _ _ _ _ _ _ _ _
  | exact dfa_Accepts.mono _ _ _ _ _ _
  | exact dfa_Count.mono _ _ _ _ _ _
  | exact dfa_Words.mono _ _ _ _ _ _
  | exact semigrouplaw07_awake.mono _
  | exact semigrouplaw07_small.mono _ _ _ _ _ _
  | exact semigroupref01_Compare.mono _ _ _
  | exact LeO.none _
  | refine LeO.ite ?_ ?_
  | refine LeO.bind ?_ (fun _ => ?_)
def semigrouplaw07_DfaEnumerates.T20 : Bool × List (List Nat × List Nat) := (true, [([], []), ([0], [0]), ([1], [1]), ([2], [2]), ([3], [3]), ([3], [3]), ([5, 3], [3, 5]), ([6, 3], [3, 6]), ([4, 7, 3], [3, 4, 7]), ([8, 3], [3, 8]), ([9, 3], [3, 9]), ([3], [3]), ([10, 11, 3], [3, 10, 11]), ([3, 12], [3, 12]), ([13, 3], [13]), ([14], [14]), ([14], [14]), ([15, 16, 14, 14], [14, 15, 16]), ([14], [14]), ([14], [14]), ([18, 19, 14], [14, 18, 19]), ([20, 14], [14, 20]), ([17, 21, 14], [14, 17, 21]), ([14, 22], [14, 22])])
def semigrouplaw07_DfaEnumerates.B20 : List Nat := [0, 1, 3, 7, 15, 15, 47, 111, 255, 511, 1023, 15, 4095, 8191, 16383, 32767, 32767, 131071, 32767, 32767, 819199, 1867775, 4194303, 8388607]
theorem semigrouplaw07_DfaEnumerates.tab20 : rtab .any (opsOf Try.f9 20) = semigrouplaw07_DfaEnumerates.T20 := by kernel_rfl
theorem semigrouplaw07_DfaEnumerates.bits20 : waitsOk semigrouplaw07_DfaEnumerates.T20.2 semigrouplaw07_DfaEnumerates.B20 = true := by kernel_rfl
set_option maxHeartbeats 8000000 in
set_option maxRecDepth 100000 in
theorem semigrouplaw07_DfaEnumerates.calls (k : Nat) (a0_0 : Int) (a0_1 : Int) (A0_2 : Option Addr) (c0_2 : Nat) (l0_2 : List Bool) (A0_3 : Option Addr) (c0_3 : Nat) (l0_3 : List (List Int)) (a1 : ByteArray) (r : Bool) (w : World) (hr0_2 : Kd.C Kd.bool w A0_2 l0_2.length l0_2) (hc0_2 : l0_2.length ≤ c0_2) (hr0_3 : Kd.C (Kd.slice 3 (Kd.int .i64)) w A0_3 l0_3.length l0_3) (hc0_3 : l0_3.length ≤ c0_3) (h : semigrouplaw07_DfaEnumerates.f k a0_0 a0_1 l0_2 l0_3 a1 = some r) :
 Calls Try.prog 9 #[.agg #[.int .i64 a0_0, .int .i64 a0_1, .slice A0_2 l0_2.length c0_2, .slice A0_3 l0_3.length c0_3], .string a1] w fun e w' => e = .returned (.bool r) ∧ Below w.heap.size w w' := by
 have hu25 := Try.underlying25
 have HR0_2 := Aside0.mk hr0_2
 have HC0_2 := Aside0.mk hc0_2
 clear hr0_2 hc0_2
 have HR0_3 := Aside0.mk hr0_3
 have HC0_3 := Aside0.mk hc0_3
 clear hr0_3 hc0_3
 have HB := Aside0.mk (Below.refl w.heap.size w)
 have H : ((semigrouplaw07_small.f k a0_0 a0_1 l0_2 l0_3 8).bind fun t217 => (if t217 = true then ((dfa_Words.f k a0_0 a0_1 l0_2 l0_3 40).bind fun t219 => (if 9 ≤ 35184372088832 then (semigrouplaw07_DfaEnumerates.l0 k a1 t219 false (List.replicate 9 0) t219 (t219.length : Int) 0 a0_0 a0_1 l0_2 l0_3) else (none))) else ((semigrouplaw07_awake.f k).bind fun t218 => (some t218)))) = some r := h
 clear h
 replace H := Option.bind_eq_some_iff.mp H
 obtain ⟨t217, A30, H⟩ := H
 replace H : (if t217 = true then ((dfa_Words.f k a0_0 a0_1 l0_2 l0_3 40).bind fun t219 => (if 9 ≤ 35184372088832 then (semigrouplaw07_DfaEnumerates.l0 k a1 t219 false (List.replicate 9 0) t219 (t219.length : Int) 0 a0_0 a0_1 l0_2 l0_3) else (none))) else ((semigrouplaw07_awake.f k).bind fun t218 => (some t218))) = some r := H
 have A3 := Aside0.mk A30
 clear A30
 by_cases c4 : t217 = true
 (focus
 subst c4
 have H1 : ((dfa_Words.f k a0_0 a0_1 l0_2 l0_3 40).bind fun t219 => (if 9 ≤ 35184372088832 then (semigrouplaw07_DfaEnumerates.l0 k a1 t219 false (List.replicate 9 0) t219 (t219.length : Int) 0 a0_0 a0_1 l0_2 l0_3) else (none))) = some r := by rw [if_pos rfl] at H; exact H
 clear H
 have H := H1
 clear H1
 replace H := Option.bind_eq_some_iff.mp H
 obtain ⟨t219, A50, H⟩ := H
 replace H : (if 9 ≤ 35184372088832 then (semigrouplaw07_DfaEnumerates.l0 k a1 t219 false (List.replicate 9 0) t219 (t219.length : Int) 0 a0_0 a0_1 l0_2 l0_3) else (none)) = some r := H
 have A5 := Aside0.mk A50
 clear A50
 by_cases c6 : 9 ≤ 35184372088832
 (focus
 rw [if_pos c6] at H
 have c6b0 := eq_true c6
 have c6b1 : decide (9 ≤ 35184372088832) = true := decide_eq_true c6
 clear c6
 obtain ⟨y222, hy222⟩ : ∃ y_ : List Int, y_ = (List.replicate 9 0) := ⟨_, rfl⟩
 replace H : (semigrouplaw07_DfaEnumerates.l0 k a1 t219 false y222 t219 (t219.length : Int) 0 a0_0 a0_1 l0_2 l0_3) = some r := by first | (rw [hy222]; with_reducible exact H) | (have H2_ := (Option.bind_some _ _).symm.trans H; rw [hy222]; with_reducible exact H2_) | (have H2_ := (Option.bind_some _ _).symm.trans H; with_reducible exact H2_) | with_reducible exact H | (rw [hy222]; exact H) | exact H
 have Ny222 := Aside0.mk hy222
 clear hy222
 have H' := Aside0.mk H
 clear H
 go_enter Try.func9, Try.ntmps9
 go_wp2_with (first | ((with_reducible refine gate_dst (N := 2) rfl ?_); (try (refine gate_guard (by rfl) ?_; dsimp only)); refine box_event ?hg (N := 2) ?hd (cs := #[.int .i64 a0_0, .int .i64 a0_1, .slice A0_2 l0_2.length c0_2, .slice A0_3 l0_3.length c0_3]) (t := 25) ?hr ?_; (case hd => rfl); (case hg => rfl); (case hr => first | (go_simp; done) | (go_simp; rfl)); intro gb216 hg w7 hbox hb; have n0_ := Aside0.mk (below_step (by repeat (first | (with_reducible first | exact HB.out | apply below_alloc | apply pw_below_drewN | apply below_drew1) | exact HB.out)) hb); have n1_ := Aside0.mk (hbox); have n2_ := Aside0.mk ((by rw [hg]; exact (below_size (by repeat (first | (with_reducible first | exact HB.out | apply below_alloc | apply pw_below_drewN | apply below_drew1) | exact HB.out))) : w.heap.size ≤ gb216)); have n3_ := Aside0.mk ((by rw [hg]; exact (below_size (by repeat (first | (with_reducible first | exact HB.out | apply below_alloc | apply pw_below_drewN | apply below_drew1) | exact HB.out))) : w.heap.size ≤ gb216)); clear HB; have HB := n0_; have BK216 := n1_; have GW216 := n2_; have GE216 := n3_; clear n0_ n1_ n2_ n3_; clear hb hbox hg; have hcz8_0 : w7.cell? ⟨gb216, 0, none⟩ = some (.int .i64 a0_0) := (blk_cell BK216.out 0).trans rfl; have hcz8_1 : w7.cell? ⟨gb216, 1, none⟩ = some (.int .i64 a0_1) := (blk_cell BK216.out 1).trans rfl; have hcz8_2 : w7.cell? ⟨gb216, 2, none⟩ = some (.slice A0_2 l0_2.length c0_2) := (blk_cell BK216.out 2).trans rfl; have hcz8_3 : w7.cell? ⟨gb216, 3, none⟩ = some (.slice A0_3 l0_3.length c0_3) := (blk_cell BK216.out 3).trans rfl; have hfz8_0 := blk_frozen BK216.out 0; have hfz8_1 := blk_frozen BK216.out 1; have hfz8_2 := blk_frozen BK216.out 2; have hfz8_3 := blk_frozen BK216.out 3) | ((with_reducible refine gate_callee (f := 33) rfl ?_); refine goesL_ (some 12) rfl rfl Try.func33 (by kernel_rfl) rfl #[.agg #[.int .i64 a0_0, .int .i64 a0_1, .slice A0_2 l0_2.length c0_2, .slice A0_3 l0_3.length c0_3], .int .i64 8] rfl (by (try simp only [List.map_toArray, List.map_cons, List.map_nil]); first | done | rfl | (simp only [List.length_drop, List.length_take]; rfl)) ?_; (with_reducible refine (semigrouplaw07_small.calls k a0_0 a0_1 _ _ l0_2 _ _ l0_3 8 true _ ?side1 ?side2 ?side3 ?side4 A3.out).mono ?_); (case side1 => repeat (first | exact (Kd.C_below HR0_2.out HB.out) | (with_reducible refine Kd.C_alloc ?_ _) | (with_reducible refine Kd.C_drewN ?_ _) | (with_reducible refine Kd.C_drew ?_))); (case side2 => exact HC0_2.out); (case side3 => repeat (first | exact (Kd.C_below HR0_3.out HB.out) | (with_reducible refine Kd.C_alloc ?_ _) | (with_reducible refine Kd.C_drewN ?_ _) | (with_reducible refine Kd.C_drew ?_))); (case side4 => exact HC0_3.out); rintro e w9 ⟨rfl, hb⟩; refine ⟨_, rfl, ?_⟩; have n0_ := Aside0.mk (blk_below (g := gb216) (o := .cells #[.int .i64 a0_0, .int .i64 a0_1, .slice A0_2 l0_2.length c0_2, .slice A0_3 l0_3.length c0_3] 25 (0, 0)) (uB BK216.out) hb); have n1_ := Aside0.mk (below_step (by repeat (first | (with_reducible first | exact HB.out | apply below_alloc | apply pw_below_drewN | apply below_drew1 | refine below_set ?_ GE216.out) | exact HB.out)) hb); clear BK216; clear HB; have BK216 := n0_; have HB := n1_; clear n0_ n1_; (try clear hb); (try clear hb2); (try clear hk); (try clear hi); have hcz10_0 : w9.cell? ⟨gb216, 0, none⟩ = some (.int .i64 a0_0) := (blk_cell BK216.out 0).trans rfl; have hcz10_1 : w9.cell? ⟨gb216, 1, none⟩ = some (.int .i64 a0_1) := (blk_cell BK216.out 1).trans rfl; have hcz10_2 : w9.cell? ⟨gb216, 2, none⟩ = some (.slice A0_2 l0_2.length c0_2) := (blk_cell BK216.out 2).trans rfl; have hcz10_3 : w9.cell? ⟨gb216, 3, none⟩ = some (.slice A0_3 l0_3.length c0_3) := (blk_cell BK216.out 3).trans rfl; have hfz10_0 := blk_frozen BK216.out 0; have hfz10_1 := blk_frozen BK216.out 1; have hfz10_2 := blk_frozen BK216.out 2; have hfz10_3 := blk_frozen BK216.out 3) | ((with_reducible refine gate_callee (f := 18) rfl ?_); refine goesL_ (some 16) rfl rfl Try.func18 (by kernel_rfl) rfl #[.agg #[.int .i64 a0_0, .int .i64 a0_1, .slice A0_2 l0_2.length c0_2, .slice A0_3 l0_3.length c0_3], .int .i64 40] rfl (by (try simp only [List.map_toArray, List.map_cons, List.map_nil]); first | done | rfl | (simp only [List.length_drop, List.length_take]; rfl)) ?_; (with_reducible refine (dfa_Words.calls k a0_0 a0_1 _ _ l0_2 _ _ l0_3 40 t219 _ ?side1 ?side2 ?side3 ?side4 A5.out).mono ?_); (case side1 => repeat (first | exact (Kd.C_below HR0_2.out HB.out) | (with_reducible refine Kd.C_alloc ?_ _) | (with_reducible refine Kd.C_drewN ?_ _) | (with_reducible refine Kd.C_drew ?_))); (case side2 => exact HC0_2.out); (case side3 => repeat (first | exact (Kd.C_below HR0_3.out HB.out) | (with_reducible refine Kd.C_alloc ?_ _) | (with_reducible refine Kd.C_drewN ?_ _) | (with_reducible refine Kd.C_drew ?_))); (case side4 => exact HC0_3.out); rintro e w11 ⟨v220, rfl, ho0, hb⟩; refine ⟨_, rfl, ?_⟩; have n0_ := Aside0.mk (Kd.R_lower ho0 (below_size (by repeat (first | (with_reducible first | exact HB.out | apply below_alloc | apply pw_below_drewN | apply below_drew1 | refine below_set ?_ GE216.out) | exact HB.out)))); have n1_ := Aside0.mk (blk_below (g := gb216) (o := .cells #[.int .i64 a0_0, .int .i64 a0_1, .slice A0_2 l0_2.length c0_2, .slice A0_3 l0_3.length c0_3] 25 (0, 0)) (uB BK216.out) hb); have n2_ := Aside0.mk (below_step (by repeat (first | (with_reducible first | exact HB.out | apply below_alloc | apply pw_below_drewN | apply below_drew1 | refine below_set ?_ GE216.out) | exact HB.out)) hb); clear BK216; clear HB; have HO221 := n0_; have BK216 := n1_; have HB := n2_; clear n0_ n1_ n2_; (try clear hb); (try clear hb2); (try clear hk); (try clear hi); (try clear ho0)) | ((with_reducible refine gate_dst (N := 17) rfl ?_); (try (refine gate_guard (by rfl) ?_; dsimp only)); refine Kd.R_make (Kd.int .i64) _ 3 rfl (N := 17) rfl 38 _ _ rfl 9 rfl rfl Try.underlying38 (.int .i64 0) 8 info3 rfl (by decide) (by omega) 0 (ok := fun _ => True) (okp := fun _ => True) rfl (fun _ hk => hk) trivial (by omega) (by omega) (Below.refl _ _) (Nat.le_refl _) ?_; intro v223 w12 ho13 hb hg_ hnew_; clear hg_ hnew_; (first | rw [← Ny222.out] at ho13 | (simp only [Int.reduceToNat] at ho13; rw [← Ny222.out] at ho13)); have n0_ := Aside0.mk (Kd.R_below (uR HO221.out) hb); have n1_ := Aside0.mk (Kd.R_lower ho13 (below_size (by repeat (first | (with_reducible first | exact HB.out | apply below_alloc | apply pw_below_drewN | apply below_drew1 | refine below_set ?_ GE216.out) | exact HB.out)))); have n2_ := Aside0.mk (blk_below (g := gb216) (o := .cells #[.int .i64 a0_0, .int .i64 a0_1, .slice A0_2 l0_2.length c0_2, .slice A0_3 l0_3.length c0_3] 25 (0, 0)) (uB BK216.out) hb); have n3_ := Aside0.mk (below_step (by repeat (first | (with_reducible first | exact HB.out | apply below_alloc | apply pw_below_drewN | apply below_drew1 | refine below_set ?_ GE216.out) | exact HB.out)) hb); clear HO221; clear BK216; clear HB; have HO221 := n0_; have HO224 := n1_; have BK216 := n2_; have HB := n3_; clear n0_ n1_ n2_ n3_; clear hb ho13; obtain ⟨Ao14, co14, eo14⟩ := Kd.R_slice HO221.out; subst eo14))
 go_loopg [6, 20] k (fun kq v6 v20 w' => ∃ (x6_1 : Bool) (x7_1 : List Int) (x20_1 : Int), v6 = .bool x6_1 ∧ v20 = .int .i64 x20_1 ∧ Aside0 (semigrouplaw07_DfaEnumerates.l0 kq a1 t219 x6_1 x7_1 t219 (t219.length : Int) x20_1 a0_0 a0_1 l0_2 l0_3 = some r) ∧ Aside0 (kq ≤ k) ∧ Aside0 (Kd.R Kd.string 9 w' w.heap.size (fun _ => True) (.slice Ao14 t219.length co14) t219) ∧ Aside0 (Kd.R (Kd.int .i64) 3 w' w.heap.size (fun _ => True) v223 x7_1) ∧ Aside0 (Kd.R Kd.string 9 w' w.heap.size (fun _ => True) (.slice Ao14 t219.length co14) t219) ∧ Aside0 (w'.heap[gb216]? = some (.cells #[.int .i64 a0_0, .int .i64 a0_1, (.slice A0_2 l0_2.length c0_2), (.slice A0_3 l0_3.length c0_3)] 25 (0, 0))) ∧ Aside0 (Below w.heap.size w w'))
 case atStart => exact ⟨(false), (y222), (0), (by first | rfl | (simp; done) | (simp [*]; done)), (by first | rfl | (simp; done) | (simp [*]; done)), H', ⟨Nat.le_refl _⟩, ⟨by (with_reducible repeat (first | apply Kd.R_alloc | apply Kd.R_drewN | apply Kd.R_drew)); exact HO221.out⟩, ⟨by (with_reducible repeat (first | apply Kd.R_alloc | apply Kd.R_drewN | apply Kd.R_drew)); exact HO224.out⟩, ⟨by (with_reducible repeat (first | apply Kd.R_alloc | apply Kd.R_drewN | apply Kd.R_drew)); exact HO221.out⟩, ⟨by (with_reducible repeat (first | refine blk_drewN ?_ _ | refine blk_drew ?_ | refine blk_alloc ?_ _)); exact BK216.out⟩, ⟨by repeat (first | (with_reducible first | exact HB.out | apply below_alloc | apply pw_below_drewN | apply below_drew1 | refine below_set ?_ GE216.out) | exact HB.out)⟩⟩
 case round =>
  clear H'
  try clear c1
  try clear p2
  try clear c3
  try clear c4
  try clear c6
  try clear c6b0
  try clear c6b1
  try clear c9
  try clear hcz10_0
  try clear hcz10_1
  try clear hcz10_2
  try clear hcz10_3
  try clear hcz8_0
  try clear hcz8_1
  try clear hcz8_2
  try clear hcz8_3
  try clear hfz10_0
  try clear hfz10_1
  try clear hfz10_2
  try clear hfz10_3
  try clear hfz8_0
  try clear hfz8_1
  try clear hfz8_2
  try clear hfz8_3
  obtain ⟨x6_1, x7_1, x20_1, rfl, rfl, HA, HK1, HO_5, HO_7, HO_18, BK216, HB⟩ := hrel
  cases gk with
  | zero => exact absurd HA.out (by simp [semigrouplaw07_DfaEnumerates.l0])
  | succ k1 =>
   have H := HA.out
   clear HA
   simp only [semigrouplaw07_DfaEnumerates.l0] at H
   by_cases c15 : x20_1 < (t219.length : Int)
   (focus
   rw [if_pos c15] at H
   have c15b0 : decide (x20_1 < (t219.length : Int)) = true := decide_eq_true c15
   clear c15
   by_cases c16 : 0 ≤ x20_1
   (focus
   rw [if_pos c16] at H
   have c16b0 : decide (0 ≤ x20_1) = true := decide_eq_true c16
   clear c16
   by_cases c17 : x20_1 < (t219.length : Int)
   (focus
   rw [if_pos c17] at H
   have c17b0 : decide (x20_1 < (t219.length : Int)) = true := decide_eq_true c17
   clear c17
   have HC18 := Aside0.mk H
   clear H
   have p225 : 0 ≤ (x20_1 : Int) := of_decide_eq_true (by first | (with_reducible assumption) | assumption)
   have q225 : x20_1 < (t219.length : Int) := of_decide_eq_true (by first | (with_reducible assumption) | assumption)
   obtain ⟨ad225, e225, hx225_0⟩ := Kd.at_string (Kd.R_reads' HO_18.out).2.2 x20_1 p225 q225
   cases e225
   replace p225 := eq_true p225
   replace q225 := eq_true q225
   go_upto_region 9 with (fail)
   go_cut [42] (fun v42 wc => ∃ (kq : Nat) (x42_17 : Bool), v42 = .bool x42_17 ∧ Aside0 (semigrouplaw07_DfaEnumerates.j1 kq a1 t219 x6_1 x7_1 (rdOf ByteArray.empty t219 x20_1) t219 (t219.length : Int) x20_1 x42_17 a0_0 a0_1 l0_2 l0_3 = some r) ∧ Aside0 (kq ≤ k1) ∧ Aside0 (Kd.R Kd.string 9 wc w.heap.size (fun _ => True) (.slice (some ad225) t219.length co14) t219) ∧ Aside0 (Kd.R (Kd.int .i64) 3 wc w.heap.size (fun _ => True) v223 x7_1) ∧ Aside0 (Kd.R Kd.string 9 wc w.heap.size (fun _ => True) (.slice (some ad225) t219.length co14) t219) ∧ Aside0 (wc.heap[gb216]? = some (.cells #[.int .i64 a0_0, .int .i64 a0_1, (.slice A0_2 l0_2.length c0_2), (.slice A0_3 l0_3.length c0_3)] 25 (0, 0))) ∧ Aside0 (Below w.heap.size w wc))
   case first =>
    have H := HC18.out
    clear HC18
    replace H := Option.bind_eq_some_iff.mp H
    obtain ⟨t226, A190, H⟩ := H
    replace H : (if t226 = true then (if x20_1 > 0 then (if 0 ≤ (wrap64 (x20_1 - 1)) then (if (wrap64 (x20_1 - 1)) < (t219.length : Int) then ((semigroupref01_Compare.f k1 (rdOf ByteArray.empty t219 (wrap64 (x20_1 - 1))) (rdOf ByteArray.empty t219 x20_1)).bind fun t228 => (semigrouplaw07_DfaEnumerates.j1 k1 a1 t219 x6_1 x7_1 (rdOf ByteArray.empty t219 x20_1) t219 (t219.length : Int) x20_1 (decide (t228 ≥ 0)) a0_0 a0_1 l0_2 l0_3)) else (none)) else (none)) else (semigrouplaw07_DfaEnumerates.j1 k1 a1 t219 x6_1 x7_1 (rdOf ByteArray.empty t219 x20_1) t219 (t219.length : Int) x20_1 false a0_0 a0_1 l0_2 l0_3)) else (semigrouplaw07_DfaEnumerates.j1 k1 a1 t219 x6_1 x7_1 (rdOf ByteArray.empty t219 x20_1) t219 (t219.length : Int) x20_1 true a0_0 a0_1 l0_2 l0_3)) = some r := H
    have A19 := Aside0.mk A190
    clear A190
    by_cases c20 : t226 = true
    (focus
    subst c20
    have H1 : (if x20_1 > 0 then (if 0 ≤ (wrap64 (x20_1 - 1)) then (if (wrap64 (x20_1 - 1)) < (t219.length : Int) then ((semigroupref01_Compare.f k1 (rdOf ByteArray.empty t219 (wrap64 (x20_1 - 1))) (rdOf ByteArray.empty t219 x20_1)).bind fun t228 => (semigrouplaw07_DfaEnumerates.j1 k1 a1 t219 x6_1 x7_1 (rdOf ByteArray.empty t219 x20_1) t219 (t219.length : Int) x20_1 (decide (t228 ≥ 0)) a0_0 a0_1 l0_2 l0_3)) else (none)) else (none)) else (semigrouplaw07_DfaEnumerates.j1 k1 a1 t219 x6_1 x7_1 (rdOf ByteArray.empty t219 x20_1) t219 (t219.length : Int) x20_1 false a0_0 a0_1 l0_2 l0_3)) = some r := by rw [if_pos rfl] at H; exact H
    clear H
    have H := H1
    clear H1
    by_cases c21 : x20_1 > 0
    (focus
    rw [if_pos c21] at H
    have c21b0 : decide (0 < x20_1) = true := decide_eq_true c21
    clear c21
    (first | rw [c21b0] | (simp only [i64_w, i32_w]; rw [c21b0]) | skip)
    obtain ⟨ji22, hji22⟩ : ∃ j_ : Int, (wrap64 (x20_1 - 1)) = j_ := ⟨_, rfl⟩
    replace H : (if 0 ≤ (ji22) then (if (ji22) < (t219.length : Int) then ((semigroupref01_Compare.f k1 (rdOf ByteArray.empty t219 (ji22)) (rdOf ByteArray.empty t219 x20_1)).bind fun t228 => (semigrouplaw07_DfaEnumerates.j1 k1 a1 t219 x6_1 x7_1 (rdOf ByteArray.empty t219 x20_1) t219 (t219.length : Int) x20_1 (decide (t228 ≥ 0)) a0_0 a0_1 l0_2 l0_3)) else (none)) else (none)) = some r := by first | (rw [hji22] at H; exact H) | (simp only [hji22] at H ⊢; exact H)
    (try rw [hji22] at A19)
    have hji22w : (IntKind.i64.wrap (x20_1 - 1)) = ji22 := (i64_w _).trans hji22
    by_cases c23 : 0 ≤ (ji22)
    (focus
    rw [if_pos c23] at H
    have c23b0 : decide (0 ≤ (ji22)) = true := decide_eq_true c23
    clear c23
    by_cases c24 : (ji22) < (t219.length : Int)
    (focus
    rw [if_pos c24] at H
    have c24b0 : decide ((ji22) < (t219.length : Int)) = true := decide_eq_true c24
    clear c24
    replace H := Option.bind_eq_some_iff.mp H
    obtain ⟨t228, A250, H⟩ := H
    replace H : (semigrouplaw07_DfaEnumerates.j1 k1 a1 t219 x6_1 x7_1 (rdOf ByteArray.empty t219 x20_1) t219 (t219.length : Int) x20_1 (decide (t228 ≥ 0)) a0_0 a0_1 l0_2 l0_3) = some r := H
    have A25 := Aside0.mk A250
    clear A250
    have H' := Aside0.mk H
    clear H
    have hcz26_0 : wr.cell? ⟨gb216, 0, none⟩ = some (.int .i64 a0_0) := (blk_cell BK216.out 0).trans rfl
    have hcz26_1 : wr.cell? ⟨gb216, 1, none⟩ = some (.int .i64 a0_1) := (blk_cell BK216.out 1).trans rfl
    have hcz26_2 : wr.cell? ⟨gb216, 2, none⟩ = some (.slice A0_2 l0_2.length c0_2) := (blk_cell BK216.out 2).trans rfl
    have hcz26_3 : wr.cell? ⟨gb216, 3, none⟩ = some (.slice A0_3 l0_3.length c0_3) := (blk_cell BK216.out 3).trans rfl
    have hfz26_0 := blk_frozen BK216.out 0
    have hfz26_1 := blk_frozen BK216.out 1
    have hfz26_2 := blk_frozen BK216.out 2
    have hfz26_3 := blk_frozen BK216.out 3
    go_wp2_with (first | ((with_reducible refine gate_callee (f := 24) rfl ?_); refine goesL_ (some 27) rfl rfl Try.func24 (by kernel_rfl) rfl #[.agg #[.int .i64 a0_0, .int .i64 a0_1, .slice A0_2 l0_2.length c0_2, .slice A0_3 l0_3.length c0_3], .string (rdOf ByteArray.empty t219 x20_1)] rfl (by (try simp only [List.map_toArray, List.map_cons, List.map_nil]); first | done | rfl | (simp only [List.length_drop, List.length_take]; rfl)) ?_; (with_reducible refine (dfa_Accepts.calls k1 a0_0 a0_1 _ _ l0_2 _ _ l0_3 (rdOf ByteArray.empty t219 x20_1) true _ ?side1 ?side2 ?side3 ?side4 A19.out).mono ?_); (case side1 => repeat (first | exact (Kd.C_below HR0_2.out HB.out) | (with_reducible refine Kd.C_alloc ?_ _) | (with_reducible refine Kd.C_drewN ?_ _) | (with_reducible refine Kd.C_drew ?_))); (case side2 => exact HC0_2.out); (case side3 => repeat (first | exact (Kd.C_below HR0_3.out HB.out) | (with_reducible refine Kd.C_alloc ?_ _) | (with_reducible refine Kd.C_drewN ?_ _) | (with_reducible refine Kd.C_drew ?_))); (case side4 => exact HC0_3.out); rintro e w27 ⟨rfl, hb⟩; refine ⟨_, rfl, ?_⟩; have n0_ := Aside0.mk (Kd.R_below (uR HO_5.out) hb); have n1_ := Aside0.mk (Kd.R_below (uR HO_7.out) hb); have n2_ := Aside0.mk (Kd.R_below (uR HO_18.out) hb); have n3_ := Aside0.mk (blk_below (g := gb216) (o := .cells #[.int .i64 a0_0, .int .i64 a0_1, .slice A0_2 l0_2.length c0_2, .slice A0_3 l0_3.length c0_3] 25 (0, 0)) (uB BK216.out) hb); have n4_ := Aside0.mk (below_step (by repeat (first | (with_reducible first | exact HB.out | apply below_alloc | apply pw_below_drewN | apply below_drew1 | refine below_set ?_ GE216.out) | exact HB.out)) hb); clear HO_5; clear HO_7; clear HO_18; clear BK216; clear HB; have HO_5 := n0_; have HO_7 := n1_; have HO_18 := n2_; have BK216 := n3_; have HB := n4_; clear n0_ n1_ n2_ n3_ n4_; (try clear hb); (try clear hb2); (try clear hk); (try clear hi); have p227 : 0 ≤ ((ji22) : Int) := of_decide_eq_true (by first | (with_reducible assumption) | assumption); have q227 : (ji22) < (t219.length : Int) := of_decide_eq_true (by first | (with_reducible assumption) | assumption); obtain ⟨ad227, e227, hx227_0⟩ := Kd.at_string (Kd.R_reads' HO_5.out).2.2 (ji22) p227 q227; obtain rfl : ad225 = ad227 := (by injection e227); replace p227 := eq_true p227; replace q227 := eq_true q227) | (go_at_call 34; (with_reducible refine (semigroupref01_Compare.calls k1 (rdOf ByteArray.empty t219 (ji22)) (rdOf ByteArray.empty t219 x20_1) t228 _ A25.out).mono ?_); rintro e w' ⟨rfl, ⟨nd, rfl⟩⟩))
    go_meet
    case rel => exact ⟨_, (decide (t228 ≥ 0)), (by first | rfl | (simp; done) | (simp [*]; done)), H', ⟨by have := HK1.out; first | omega | exact Nat.le_refl _⟩, ⟨by (with_reducible repeat (first | apply Kd.R_alloc | apply Kd.R_drewN | apply Kd.R_drew)); exact HO_5.out⟩, ⟨by (with_reducible repeat (first | apply Kd.R_alloc | apply Kd.R_drewN | apply Kd.R_drew)); exact HO_7.out⟩, ⟨by (with_reducible repeat (first | apply Kd.R_alloc | apply Kd.R_drewN | apply Kd.R_drew)); exact HO_18.out⟩, ⟨by (with_reducible repeat (first | refine blk_drewN ?_ _ | refine blk_drew ?_ | refine blk_alloc ?_ _)); exact BK216.out⟩, ⟨by repeat (first | (with_reducible first | exact HB.out | apply below_alloc | apply pw_below_drewN | apply below_drew1 | refine below_set ?_ GE216.out) | exact HB.out)⟩⟩
    )
    (focus
    rw [if_neg c24] at H
    exact absurd H (by simp)
    )
    )
    (focus
    rw [if_neg c23] at H
    exact absurd H (by simp)
    )
    )
    (focus
    rw [if_neg c21] at H
    have c21b0 : decide (0 < x20_1) = false := decide_eq_false c21
    clear c21
    (first | rw [c21b0] | (simp only [i64_w, i32_w]; rw [c21b0]) | skip)
    have H' := Aside0.mk H
    clear H
    have hcz28_0 : wr.cell? ⟨gb216, 0, none⟩ = some (.int .i64 a0_0) := (blk_cell BK216.out 0).trans rfl
    have hcz28_1 : wr.cell? ⟨gb216, 1, none⟩ = some (.int .i64 a0_1) := (blk_cell BK216.out 1).trans rfl
    have hcz28_2 : wr.cell? ⟨gb216, 2, none⟩ = some (.slice A0_2 l0_2.length c0_2) := (blk_cell BK216.out 2).trans rfl
    have hcz28_3 : wr.cell? ⟨gb216, 3, none⟩ = some (.slice A0_3 l0_3.length c0_3) := (blk_cell BK216.out 3).trans rfl
    have hfz28_0 := blk_frozen BK216.out 0
    have hfz28_1 := blk_frozen BK216.out 1
    have hfz28_2 := blk_frozen BK216.out 2
    have hfz28_3 := blk_frozen BK216.out 3
    go_wp2_with (first | ((with_reducible refine gate_callee (f := 24) rfl ?_); refine goesL_ (some 27) rfl rfl Try.func24 (by kernel_rfl) rfl #[.agg #[.int .i64 a0_0, .int .i64 a0_1, .slice A0_2 l0_2.length c0_2, .slice A0_3 l0_3.length c0_3], .string (rdOf ByteArray.empty t219 x20_1)] rfl (by (try simp only [List.map_toArray, List.map_cons, List.map_nil]); first | done | rfl | (simp only [List.length_drop, List.length_take]; rfl)) ?_; (with_reducible refine (dfa_Accepts.calls k1 a0_0 a0_1 _ _ l0_2 _ _ l0_3 (rdOf ByteArray.empty t219 x20_1) true _ ?side1 ?side2 ?side3 ?side4 A19.out).mono ?_); (case side1 => repeat (first | exact (Kd.C_below HR0_2.out HB.out) | (with_reducible refine Kd.C_alloc ?_ _) | (with_reducible refine Kd.C_drewN ?_ _) | (with_reducible refine Kd.C_drew ?_))); (case side2 => exact HC0_2.out); (case side3 => repeat (first | exact (Kd.C_below HR0_3.out HB.out) | (with_reducible refine Kd.C_alloc ?_ _) | (with_reducible refine Kd.C_drewN ?_ _) | (with_reducible refine Kd.C_drew ?_))); (case side4 => exact HC0_3.out); rintro e w29 ⟨rfl, hb⟩; refine ⟨_, rfl, ?_⟩; have n0_ := Aside0.mk (Kd.R_below (uR HO_5.out) hb); have n1_ := Aside0.mk (Kd.R_below (uR HO_7.out) hb); have n2_ := Aside0.mk (Kd.R_below (uR HO_18.out) hb); have n3_ := Aside0.mk (blk_below (g := gb216) (o := .cells #[.int .i64 a0_0, .int .i64 a0_1, .slice A0_2 l0_2.length c0_2, .slice A0_3 l0_3.length c0_3] 25 (0, 0)) (uB BK216.out) hb); have n4_ := Aside0.mk (below_step (by repeat (first | (with_reducible first | exact HB.out | apply below_alloc | apply pw_below_drewN | apply below_drew1 | refine below_set ?_ GE216.out) | exact HB.out)) hb); clear HO_5; clear HO_7; clear HO_18; clear BK216; clear HB; have HO_5 := n0_; have HO_7 := n1_; have HO_18 := n2_; have BK216 := n3_; have HB := n4_; clear n0_ n1_ n2_ n3_ n4_; (try clear hb); (try clear hb2); (try clear hk); (try clear hi)))
    go_meet
    case rel => exact ⟨_, (false), (by first | rfl | (simp; done) | (simp [*]; done)), H', ⟨by have := HK1.out; first | omega | exact Nat.le_refl _⟩, ⟨by (with_reducible repeat (first | apply Kd.R_alloc | apply Kd.R_drewN | apply Kd.R_drew)); exact HO_5.out⟩, ⟨by (with_reducible repeat (first | apply Kd.R_alloc | apply Kd.R_drewN | apply Kd.R_drew)); exact HO_7.out⟩, ⟨by (with_reducible repeat (first | apply Kd.R_alloc | apply Kd.R_drewN | apply Kd.R_drew)); exact HO_18.out⟩, ⟨by (with_reducible repeat (first | refine blk_drewN ?_ _ | refine blk_drew ?_ | refine blk_alloc ?_ _)); exact BK216.out⟩, ⟨by repeat (first | (with_reducible first | exact HB.out | apply below_alloc | apply pw_below_drewN | apply below_drew1 | refine below_set ?_ GE216.out) | exact HB.out)⟩⟩
    )
    )
    (focus
    replace c20 := Bool.eq_false_iff.mpr c20
    subst c20
    have H1 : (semigrouplaw07_DfaEnumerates.j1 k1 a1 t219 x6_1 x7_1 (rdOf ByteArray.empty t219 x20_1) t219 (t219.length : Int) x20_1 true a0_0 a0_1 l0_2 l0_3) = some r := by rw [if_neg (show ¬ (false = true) by decide)] at H; exact H
    clear H
    have H := H1
    clear H1
    have H' := Aside0.mk H
    clear H
    have hcz30_0 : wr.cell? ⟨gb216, 0, none⟩ = some (.int .i64 a0_0) := (blk_cell BK216.out 0).trans rfl
    have hcz30_1 : wr.cell? ⟨gb216, 1, none⟩ = some (.int .i64 a0_1) := (blk_cell BK216.out 1).trans rfl
    have hcz30_2 : wr.cell? ⟨gb216, 2, none⟩ = some (.slice A0_2 l0_2.length c0_2) := (blk_cell BK216.out 2).trans rfl
    have hcz30_3 : wr.cell? ⟨gb216, 3, none⟩ = some (.slice A0_3 l0_3.length c0_3) := (blk_cell BK216.out 3).trans rfl
    have hfz30_0 := blk_frozen BK216.out 0
    have hfz30_1 := blk_frozen BK216.out 1
    have hfz30_2 := blk_frozen BK216.out 2
    have hfz30_3 := blk_frozen BK216.out 3
    go_wp2_with (first | ((with_reducible refine gate_callee (f := 24) rfl ?_); refine goesL_ (some 27) rfl rfl Try.func24 (by kernel_rfl) rfl #[.agg #[.int .i64 a0_0, .int .i64 a0_1, .slice A0_2 l0_2.length c0_2, .slice A0_3 l0_3.length c0_3], .string (rdOf ByteArray.empty t219 x20_1)] rfl (by (try simp only [List.map_toArray, List.map_cons, List.map_nil]); first | done | rfl | (simp only [List.length_drop, List.length_take]; rfl)) ?_; (with_reducible refine (dfa_Accepts.calls k1 a0_0 a0_1 _ _ l0_2 _ _ l0_3 (rdOf ByteArray.empty t219 x20_1) false _ ?side1 ?side2 ?side3 ?side4 A19.out).mono ?_); (case side1 => repeat (first | exact (Kd.C_below HR0_2.out HB.out) | (with_reducible refine Kd.C_alloc ?_ _) | (with_reducible refine Kd.C_drewN ?_ _) | (with_reducible refine Kd.C_drew ?_))); (case side2 => exact HC0_2.out); (case side3 => repeat (first | exact (Kd.C_below HR0_3.out HB.out) | (with_reducible refine Kd.C_alloc ?_ _) | (with_reducible refine Kd.C_drewN ?_ _) | (with_reducible refine Kd.C_drew ?_))); (case side4 => exact HC0_3.out); rintro e w31 ⟨rfl, hb⟩; refine ⟨_, rfl, ?_⟩; have n0_ := Aside0.mk (Kd.R_below (uR HO_5.out) hb); have n1_ := Aside0.mk (Kd.R_below (uR HO_7.out) hb); have n2_ := Aside0.mk (Kd.R_below (uR HO_18.out) hb); have n3_ := Aside0.mk (blk_below (g := gb216) (o := .cells #[.int .i64 a0_0, .int .i64 a0_1, .slice A0_2 l0_2.length c0_2, .slice A0_3 l0_3.length c0_3] 25 (0, 0)) (uB BK216.out) hb); have n4_ := Aside0.mk (below_step (by repeat (first | (with_reducible first | exact HB.out | apply below_alloc | apply pw_below_drewN | apply below_drew1 | refine below_set ?_ GE216.out) | exact HB.out)) hb); clear HO_5; clear HO_7; clear HO_18; clear BK216; clear HB; have HO_5 := n0_; have HO_7 := n1_; have HO_18 := n2_; have BK216 := n3_; have HB := n4_; clear n0_ n1_ n2_ n3_ n4_; (try clear hb); (try clear hb2); (try clear hk); (try clear hi)))
    go_meet
    case rel => exact ⟨_, (true), (by first | rfl | (simp; done) | (simp [*]; done)), H', ⟨by have := HK1.out; first | omega | exact Nat.le_refl _⟩, ⟨by (with_reducible repeat (first | apply Kd.R_alloc | apply Kd.R_drewN | apply Kd.R_drew)); exact HO_5.out⟩, ⟨by (with_reducible repeat (first | apply Kd.R_alloc | apply Kd.R_drewN | apply Kd.R_drew)); exact HO_7.out⟩, ⟨by (with_reducible repeat (first | apply Kd.R_alloc | apply Kd.R_drewN | apply Kd.R_drew)); exact HO_18.out⟩, ⟨by (with_reducible repeat (first | refine blk_drewN ?_ _ | refine blk_drew ?_ | refine blk_alloc ?_ _)); exact BK216.out⟩, ⟨by repeat (first | (with_reducible first | exact HB.out | apply below_alloc | apply pw_below_drewN | apply below_drew1 | refine below_set ?_ GE216.out) | exact HB.out)⟩⟩
    )
   case rest =>
    clear HC18
    try clear c1
    try clear c2
    try clear p2
    try clear q2
    try clear hx2
    try clear c3
    try clear c4
    try clear c6
    try clear c6b0
    try clear c6b1
    try clear p6
    try clear c9
    try clear c15
    try clear c15b0
    try clear c16
    try clear c16b0
    try clear c17
    try clear c17b0
    try clear c18
    try clear c20
    try clear c21
    try clear c21b0
    try clear p22
    try clear q22
    try clear hx22
    try clear c23
    try clear c23b0
    try clear c24
    try clear c24b0
    try clear hcz10_0
    try clear hcz10_1
    try clear hcz10_2
    try clear hcz10_3
    try clear hcz26_0
    try clear hcz26_1
    try clear hcz26_2
    try clear hcz26_3
    try clear hcz28_0
    try clear hcz28_1
    try clear hcz28_2
    try clear hcz28_3
    try clear hcz30_0
    try clear hcz30_1
    try clear hcz30_2
    try clear hcz30_3
    try clear hcz8_0
    try clear hcz8_1
    try clear hcz8_2
    try clear hcz8_3
    try clear hfz10_0
    try clear hfz10_1
    try clear hfz10_2
    try clear hfz10_3
    try clear hfz26_0
    try clear hfz26_1
    try clear hfz26_2
    try clear hfz26_3
    try clear hfz28_0
    try clear hfz28_1
    try clear hfz28_2
    try clear hfz28_3
    try clear hfz30_0
    try clear hfz30_1
    try clear hfz30_2
    try clear hfz30_3
    try clear hfz8_0
    try clear hfz8_1
    try clear hfz8_2
    try clear hfz8_3
    try clear hx225_0
    try clear hx227_0
    try clear p2
    try clear p225
    try clear p227
    try clear q225
    try clear q227
    obtain ⟨kq, x42_17, rfl, HA, HJ17, HO_5, HO_7, HO_18, BK216, HB⟩ := hcut
    cases kq with
    | zero => exact absurd HA.out (by simp [semigrouplaw07_DfaEnumerates.j1])
    | succ kj17 =>
     have H := HA.out
     clear HA
     simp only [semigrouplaw07_DfaEnumerates.j1] at H
     by_cases c32 : x42_17 = true
     (focus
     subst c32
     have H1 : (some false) = some r := by rw [if_pos rfl] at H; exact H
     clear H
     have H := H1
     clear H1
     obtain rfl := Option.some.inj H
     go_wp2
     go_ret
     exact ⟨by first | rfl | (simp [errW_none, errW_some] <;> rfl) | (simp [*, errW_none, errW_some] <;> rfl), by repeat (first | (with_reducible first | exact HB.out | apply below_alloc | apply pw_below_drewN | apply below_drew1 | refine below_set ?_ GE216.out) | exact HB.out)⟩
     )
     (focus
     replace c32 := Bool.eq_false_iff.mpr c32
     subst c32
     have H1 : (if x6_1 = true then (if ((rdOf ByteArray.empty t219 x20_1).size : Int) < (x7_1.length : Int) then (if 0 ≤ ((rdOf ByteArray.empty t219 x20_1).size : Int) then (semigrouplaw07_DfaEnumerates.l0 kj17 a1 t219 true (x7_1.set (((rdOf ByteArray.empty t219 x20_1).size : Int) : Int).toNat (wrap64 ((rd x7_1 ((rdOf ByteArray.empty t219 x20_1).size : Int)) + 1))) t219 (t219.length : Int) (wrap64 (x20_1 + 1)) a0_0 a0_1 l0_2 l0_3) else (none)) else (semigrouplaw07_DfaEnumerates.l0 kj17 a1 t219 true x7_1 t219 (t219.length : Int) (wrap64 (x20_1 + 1)) a0_0 a0_1 l0_2 l0_3)) else (if ((rdOf ByteArray.empty t219 x20_1).size : Int) < (x7_1.length : Int) then (if 0 ≤ ((rdOf ByteArray.empty t219 x20_1).size : Int) then (semigrouplaw07_DfaEnumerates.l0 kj17 a1 t219 ((rdOf ByteArray.empty t219 x20_1).toList == a1.toList) (x7_1.set (((rdOf ByteArray.empty t219 x20_1).size : Int) : Int).toNat (wrap64 ((rd x7_1 ((rdOf ByteArray.empty t219 x20_1).size : Int)) + 1))) t219 (t219.length : Int) (wrap64 (x20_1 + 1)) a0_0 a0_1 l0_2 l0_3) else (none)) else (semigrouplaw07_DfaEnumerates.l0 kj17 a1 t219 ((rdOf ByteArray.empty t219 x20_1).toList == a1.toList) x7_1 t219 (t219.length : Int) (wrap64 (x20_1 + 1)) a0_0 a0_1 l0_2 l0_3))) = some r := by rw [if_neg (show ¬ (false = true) by decide)] at H; exact H
     clear H
     have H := H1
     clear H1
     by_cases c33 : x6_1 = true
     (focus
     subst c33
     have H1 : (if ((rdOf ByteArray.empty t219 x20_1).size : Int) < (x7_1.length : Int) then (if 0 ≤ ((rdOf ByteArray.empty t219 x20_1).size : Int) then (semigrouplaw07_DfaEnumerates.l0 kj17 a1 t219 true (x7_1.set (((rdOf ByteArray.empty t219 x20_1).size : Int) : Int).toNat (wrap64 ((rd x7_1 ((rdOf ByteArray.empty t219 x20_1).size : Int)) + 1))) t219 (t219.length : Int) (wrap64 (x20_1 + 1)) a0_0 a0_1 l0_2 l0_3) else (none)) else (semigrouplaw07_DfaEnumerates.l0 kj17 a1 t219 true x7_1 t219 (t219.length : Int) (wrap64 (x20_1 + 1)) a0_0 a0_1 l0_2 l0_3)) = some r := by rw [if_pos rfl] at H; exact H
     clear H
     have H := H1
     clear H1
     by_cases c34 : ((rdOf ByteArray.empty t219 x20_1).size : Int) < (x7_1.length : Int)
     (focus
     rw [if_pos c34] at H
     have c34b0 : decide (((rdOf ByteArray.empty t219 x20_1).size : Int) < (x7_1.length : Int)) = true := decide_eq_true c34
     have c34b1 : decide ((rdOf ByteArray.empty t219 x20_1).size < x7_1.length) = true := decide_eq_true (Int.ofNat_lt.mp c34)
     clear c34
     by_cases c35 : 0 ≤ ((rdOf ByteArray.empty t219 x20_1).size : Int)
     (focus
     rw [if_pos c35] at H
     have c35b0 : decide (0 ≤ ((rdOf ByteArray.empty t219 x20_1).size : Int)) = true := decide_eq_true c35
     have c35b1 : decide (0 ≤ (rdOf ByteArray.empty t219 x20_1).size) = true := decide_eq_true (by omega)
     clear c35
     obtain ⟨y230, hy230⟩ : ∃ y_ : List Int, y_ = (x7_1.set (((rdOf ByteArray.empty t219 x20_1).size : Int) : Int).toNat (wrap64 ((rd x7_1 ((rdOf ByteArray.empty t219 x20_1).size : Int)) + 1))) := ⟨_, rfl⟩
     replace H : (semigrouplaw07_DfaEnumerates.l0 kj17 a1 t219 true y230 t219 (t219.length : Int) (wrap64 (x20_1 + 1)) a0_0 a0_1 l0_2 l0_3) = some r := by first | (rw [hy230]; with_reducible exact H) | (have H2_ := (Option.bind_some _ _).symm.trans H; rw [hy230]; with_reducible exact H2_) | (have H2_ := (Option.bind_some _ _).symm.trans H; with_reducible exact H2_) | with_reducible exact H | (rw [hy230]; exact H) | exact H
     have Ny230 := Aside0.mk hy230
     clear hy230
     have H' := Aside0.mk H
     clear H
     obtain ⟨Ao37, co37, eo37⟩ := Kd.R_slice HO_7.out
     subst eo37
     have p229 : 0 ≤ (((rdOf ByteArray.empty t219 x20_1).size : Int) : Int) := of_decide_eq_true (by first | (with_reducible assumption) | assumption)
     have q229 : ((rdOf ByteArray.empty t219 x20_1).size : Int) < (x7_1.length : Int) := of_decide_eq_true (by first | (with_reducible assumption) | assumption)
     obtain ⟨ad229, e229, hx229_0⟩ := Kd.at_int (Kd.R_reads' HO_7.out).2.2 ((rdOf ByteArray.empty t219 x20_1).size : Int) p229 q229
     cases e229
     replace p229 := eq_true p229
     replace q229 := eq_true q229
     have p36 : 0 ≤ (((rdOf ByteArray.empty t219 x20_1).size : Int) : Int) := of_decide_eq_true (by first | (with_reducible assumption) | assumption)
     have q36 : (((rdOf ByteArray.empty t219 x20_1).size : Int) : Int) < ((x7_1.length : Int) : Int) := of_decide_eq_true (by first | (with_reducible assumption) | assumption)
     obtain ⟨go36, co36, eo36, gb36, gl36, cl36, HG36⟩ := Kd.R_form HO_7.out (by first | omega | (have e_ := (Kd.R_reads' HO_7.out).1; omega))
     (first | cases eo36 | (injection eo36 with ea_ en_ ec_; (first | subst ea_ | (injection ea_ with ea_; subst ea_)); subst ec_; clear en_))
     have GB36 := Aside0.mk gb36
     have GG36 := Aside0.mk HG36
     clear gb36 gl36 HG36
     (first | simp only [add_plain] at hx229_0 | skip)
     (try simp only [Int.toNat_natCast] at hx229_0)
     obtain ⟨hx36_0, hf36_0⟩ := Kd.R_celln 0 HO_7.out (((rdOf ByteArray.empty t219 x20_1).size : Int) : Int) p36 q36
     (try simp only [Int.toNat_natCast] at hx36_0 hf36_0)
     replace p36 := eq_true p36
     replace q36 := eq_true q36
     have HP38 := Kd.R_putg HO_7.out (((rdOf ByteArray.empty t219 x20_1).size : Int) : Int) (wrap64 ((rd x7_1 ((rdOf ByteArray.empty t219 x20_1).size : Int)) + 1))
     go_wp2_with (first | ((with_reducible refine gate_store (t := 3) (p := 60) rfl ?_); refine store_event (t := 3) (p := 60) (v := ?vo_w39) (w1 := (wc.setCell ⟨go36, (rdOf ByteArray.empty t219 x20_1).size, none⟩ (.int .i64 (wrap64 ((rd x7_1 ((rdOf ByteArray.empty t219 x20_1).size : Int)) + 1))))) ?hg ?ho ?hn ?hr ?_; (case ho => rfl); (case hg => rfl); (case hn => rfl); (case hr => first | (go_simp; done) | (go_simp; rfl)); intro w39 hw; have hg : wc.grownBy w39 (some go36) := (by rw [hw]; exact HP38.2); have hp_ : Kd.R (Kd.int .i64) 3 w39 w.heap.size (fun _ => True) (.slice (some ⟨go36, 0, none⟩) x7_1.length co37) y230 := (by rw [hw, Ny230.out]; exact HP38.1); clear HP38; have n0_ := Aside0.mk (Kd.R_over' (v := (.slice (some ⟨go36, 0, none⟩) x7_1.length co37)) (uR HO_5.out) (Kd.R_typed HO_7.out) (by decide) hg); have n1_ := Aside0.mk (hp_); have n2_ := Aside0.mk (Kd.R_over' (v := (.slice (some ⟨go36, 0, none⟩) x7_1.length co37)) (uR HO_18.out) (Kd.R_typed HO_7.out) (by decide) hg); have n3_ := Aside0.mk (blk_grown (g := gb216) (o := .cells #[.int .i64 a0_0, .int .i64 a0_1, .slice A0_2 l0_2.length c0_2, .slice A0_3 l0_3.length c0_3] 25 (0, 0)) (uB BK216.out) hg (Kd.R_ne HO_7.out BK216.out (by decide))); have n4_ := Aside0.mk ((by rw [hw]; exact below_set (HB.out) GB36.out : Below w.heap.size w w39)); clear HO_5; clear HO_7; clear HO_18; clear BK216; clear HB; have HO_5 := n0_; have HO_7 := n1_; have HO_18 := n2_; have BK216 := n3_; have HB := n4_; clear n0_ n1_ n2_ n3_ n4_; clear hg hw hp_))
     go_roundg kj17
     case measure => have := HK1.out; have := HJ17.out; omega
     case rel => exact ⟨(true), (y230), (wrap64 (x20_1 + 1)), (by first | rfl | (simp; done) | (simp [*]; done)), (by first | rfl | (simp; done) | (simp [*]; done)), H', ⟨by have := HK1.out; have := HJ17.out; omega⟩, ⟨by (with_reducible repeat (first | apply Kd.R_alloc | apply Kd.R_drewN | apply Kd.R_drew)); exact HO_5.out⟩, ⟨by (with_reducible repeat (first | apply Kd.R_alloc | apply Kd.R_drewN | apply Kd.R_drew)); exact HO_7.out⟩, ⟨by (with_reducible repeat (first | apply Kd.R_alloc | apply Kd.R_drewN | apply Kd.R_drew)); exact HO_18.out⟩, ⟨by (with_reducible repeat (first | refine blk_drewN ?_ _ | refine blk_drew ?_ | refine blk_alloc ?_ _)); exact BK216.out⟩, ⟨by repeat (first | (with_reducible first | exact HB.out | apply below_alloc | apply pw_below_drewN | apply below_drew1 | refine below_set ?_ GE216.out) | exact HB.out)⟩⟩
     )
     (focus
     rw [if_neg c35] at H
     exact absurd H (by simp)
     )
     )
     (focus
     rw [if_neg c34] at H
     have c34b0 : decide (((rdOf ByteArray.empty t219 x20_1).size : Int) < (x7_1.length : Int)) = false := decide_eq_false c34
     have c34b1 : decide ((rdOf ByteArray.empty t219 x20_1).size < x7_1.length) = false := decide_eq_false (fun h => c34 (Int.ofNat_lt.mpr h))
     clear c34
     have H' := Aside0.mk H
     clear H
     obtain ⟨Ao40, co40, eo40⟩ := Kd.R_slice HO_7.out
     subst eo40
     go_wp2
     go_roundg kj17
     case measure => have := HK1.out; have := HJ17.out; omega
     case rel => exact ⟨(true), (x7_1), (wrap64 (x20_1 + 1)), (by first | rfl | (simp; done) | (simp [*]; done)), (by first | rfl | (simp; done) | (simp [*]; done)), H', ⟨by have := HK1.out; have := HJ17.out; omega⟩, ⟨by (with_reducible repeat (first | apply Kd.R_alloc | apply Kd.R_drewN | apply Kd.R_drew)); exact HO_5.out⟩, ⟨by (with_reducible repeat (first | apply Kd.R_alloc | apply Kd.R_drewN | apply Kd.R_drew)); exact HO_7.out⟩, ⟨by (with_reducible repeat (first | apply Kd.R_alloc | apply Kd.R_drewN | apply Kd.R_drew)); exact HO_18.out⟩, ⟨by (with_reducible repeat (first | refine blk_drewN ?_ _ | refine blk_drew ?_ | refine blk_alloc ?_ _)); exact BK216.out⟩, ⟨by repeat (first | (with_reducible first | exact HB.out | apply below_alloc | apply pw_below_drewN | apply below_drew1 | refine below_set ?_ GE216.out) | exact HB.out)⟩⟩
     )
     )
     (focus
     replace c33 := Bool.eq_false_iff.mpr c33
     subst c33
     have H1 : (if ((rdOf ByteArray.empty t219 x20_1).size : Int) < (x7_1.length : Int) then (if 0 ≤ ((rdOf ByteArray.empty t219 x20_1).size : Int) then (semigrouplaw07_DfaEnumerates.l0 kj17 a1 t219 ((rdOf ByteArray.empty t219 x20_1).toList == a1.toList) (x7_1.set (((rdOf ByteArray.empty t219 x20_1).size : Int) : Int).toNat (wrap64 ((rd x7_1 ((rdOf ByteArray.empty t219 x20_1).size : Int)) + 1))) t219 (t219.length : Int) (wrap64 (x20_1 + 1)) a0_0 a0_1 l0_2 l0_3) else (none)) else (semigrouplaw07_DfaEnumerates.l0 kj17 a1 t219 ((rdOf ByteArray.empty t219 x20_1).toList == a1.toList) x7_1 t219 (t219.length : Int) (wrap64 (x20_1 + 1)) a0_0 a0_1 l0_2 l0_3)) = some r := by rw [if_neg (show ¬ (false = true) by decide)] at H; exact H
     clear H
     have H := H1
     clear H1
     by_cases c41 : ((rdOf ByteArray.empty t219 x20_1).size : Int) < (x7_1.length : Int)
     (focus
     rw [if_pos c41] at H
     have c41b0 : decide (((rdOf ByteArray.empty t219 x20_1).size : Int) < (x7_1.length : Int)) = true := decide_eq_true c41
     have c41b1 : decide ((rdOf ByteArray.empty t219 x20_1).size < x7_1.length) = true := decide_eq_true (Int.ofNat_lt.mp c41)
     clear c41
     by_cases c42 : 0 ≤ ((rdOf ByteArray.empty t219 x20_1).size : Int)
     (focus
     rw [if_pos c42] at H
     have c42b0 : decide (0 ≤ ((rdOf ByteArray.empty t219 x20_1).size : Int)) = true := decide_eq_true c42
     have c42b1 : decide (0 ≤ (rdOf ByteArray.empty t219 x20_1).size) = true := decide_eq_true (by omega)
     clear c42
     obtain ⟨y232, hy232⟩ : ∃ y_ : List Int, y_ = (x7_1.set (((rdOf ByteArray.empty t219 x20_1).size : Int) : Int).toNat (wrap64 ((rd x7_1 ((rdOf ByteArray.empty t219 x20_1).size : Int)) + 1))) := ⟨_, rfl⟩
     replace H : (semigrouplaw07_DfaEnumerates.l0 kj17 a1 t219 ((rdOf ByteArray.empty t219 x20_1).toList == a1.toList) y232 t219 (t219.length : Int) (wrap64 (x20_1 + 1)) a0_0 a0_1 l0_2 l0_3) = some r := by first | (rw [hy232]; with_reducible exact H) | (have H2_ := (Option.bind_some _ _).symm.trans H; rw [hy232]; with_reducible exact H2_) | (have H2_ := (Option.bind_some _ _).symm.trans H; with_reducible exact H2_) | with_reducible exact H | (rw [hy232]; exact H) | exact H
     have Ny232 := Aside0.mk hy232
     clear hy232
     have H' := Aside0.mk H
     clear H
     obtain ⟨Ao44, co44, eo44⟩ := Kd.R_slice HO_7.out
     subst eo44
     have p231 : 0 ≤ (((rdOf ByteArray.empty t219 x20_1).size : Int) : Int) := of_decide_eq_true (by first | (with_reducible assumption) | assumption)
     have q231 : ((rdOf ByteArray.empty t219 x20_1).size : Int) < (x7_1.length : Int) := of_decide_eq_true (by first | (with_reducible assumption) | assumption)
     obtain ⟨ad231, e231, hx231_0⟩ := Kd.at_int (Kd.R_reads' HO_7.out).2.2 ((rdOf ByteArray.empty t219 x20_1).size : Int) p231 q231
     cases e231
     replace p231 := eq_true p231
     replace q231 := eq_true q231
     have p43 : 0 ≤ (((rdOf ByteArray.empty t219 x20_1).size : Int) : Int) := of_decide_eq_true (by first | (with_reducible assumption) | assumption)
     have q43 : (((rdOf ByteArray.empty t219 x20_1).size : Int) : Int) < ((x7_1.length : Int) : Int) := of_decide_eq_true (by first | (with_reducible assumption) | assumption)
     obtain ⟨go43, co43, eo43, gb43, gl43, cl43, HG43⟩ := Kd.R_form HO_7.out (by first | omega | (have e_ := (Kd.R_reads' HO_7.out).1; omega))
     (first | cases eo43 | (injection eo43 with ea_ en_ ec_; (first | subst ea_ | (injection ea_ with ea_; subst ea_)); subst ec_; clear en_))
     have GB43 := Aside0.mk gb43
     have GG43 := Aside0.mk HG43
     clear gb43 gl43 HG43
     (first | simp only [add_plain] at hx231_0 | skip)
     (try simp only [Int.toNat_natCast] at hx231_0)
     obtain ⟨hx43_0, hf43_0⟩ := Kd.R_celln 0 HO_7.out (((rdOf ByteArray.empty t219 x20_1).size : Int) : Int) p43 q43
     (try simp only [Int.toNat_natCast] at hx43_0 hf43_0)
     replace p43 := eq_true p43
     replace q43 := eq_true q43
     have HP45 := Kd.R_putg HO_7.out (((rdOf ByteArray.empty t219 x20_1).size : Int) : Int) (wrap64 ((rd x7_1 ((rdOf ByteArray.empty t219 x20_1).size : Int)) + 1))
     go_wp2_with (first | ((with_reducible refine gate_store (t := 3) (p := 60) rfl ?_); refine store_event (t := 3) (p := 60) (v := ?vo_w46) (w1 := (wc.setCell ⟨go43, (rdOf ByteArray.empty t219 x20_1).size, none⟩ (.int .i64 (wrap64 ((rd x7_1 ((rdOf ByteArray.empty t219 x20_1).size : Int)) + 1))))) ?hg ?ho ?hn ?hr ?_; (case ho => rfl); (case hg => rfl); (case hn => rfl); (case hr => first | (go_simp; done) | (go_simp; rfl)); intro w46 hw; have hg : wc.grownBy w46 (some go43) := (by rw [hw]; exact HP45.2); have hp_ : Kd.R (Kd.int .i64) 3 w46 w.heap.size (fun _ => True) (.slice (some ⟨go43, 0, none⟩) x7_1.length co44) y232 := (by rw [hw, Ny232.out]; exact HP45.1); clear HP45; have n0_ := Aside0.mk (Kd.R_over' (v := (.slice (some ⟨go43, 0, none⟩) x7_1.length co44)) (uR HO_5.out) (Kd.R_typed HO_7.out) (by decide) hg); have n1_ := Aside0.mk (hp_); have n2_ := Aside0.mk (Kd.R_over' (v := (.slice (some ⟨go43, 0, none⟩) x7_1.length co44)) (uR HO_18.out) (Kd.R_typed HO_7.out) (by decide) hg); have n3_ := Aside0.mk (blk_grown (g := gb216) (o := .cells #[.int .i64 a0_0, .int .i64 a0_1, .slice A0_2 l0_2.length c0_2, .slice A0_3 l0_3.length c0_3] 25 (0, 0)) (uB BK216.out) hg (Kd.R_ne HO_7.out BK216.out (by decide))); have n4_ := Aside0.mk ((by rw [hw]; exact below_set (HB.out) GB43.out : Below w.heap.size w w46)); clear HO_5; clear HO_7; clear HO_18; clear BK216; clear HB; have HO_5 := n0_; have HO_7 := n1_; have HO_18 := n2_; have BK216 := n3_; have HB := n4_; clear n0_ n1_ n2_ n3_ n4_; clear hg hw hp_))
     go_roundg kj17
     case measure => have := HK1.out; have := HJ17.out; omega
     case rel => exact ⟨(((rdOf ByteArray.empty t219 x20_1).toList == a1.toList)), (y232), (wrap64 (x20_1 + 1)), (by first | rfl | (simp; done) | (simp [*]; done)), (by first | rfl | (simp; done) | (simp [*]; done)), H', ⟨by have := HK1.out; have := HJ17.out; omega⟩, ⟨by (with_reducible repeat (first | apply Kd.R_alloc | apply Kd.R_drewN | apply Kd.R_drew)); exact HO_5.out⟩, ⟨by (with_reducible repeat (first | apply Kd.R_alloc | apply Kd.R_drewN | apply Kd.R_drew)); exact HO_7.out⟩, ⟨by (with_reducible repeat (first | apply Kd.R_alloc | apply Kd.R_drewN | apply Kd.R_drew)); exact HO_18.out⟩, ⟨by (with_reducible repeat (first | refine blk_drewN ?_ _ | refine blk_drew ?_ | refine blk_alloc ?_ _)); exact BK216.out⟩, ⟨by repeat (first | (with_reducible first | exact HB.out | apply below_alloc | apply pw_below_drewN | apply below_drew1 | refine below_set ?_ GE216.out) | exact HB.out)⟩⟩
     )
     (focus
     rw [if_neg c42] at H
     exact absurd H (by simp)
     )
     )
     (focus
     rw [if_neg c41] at H
     have c41b0 : decide (((rdOf ByteArray.empty t219 x20_1).size : Int) < (x7_1.length : Int)) = false := decide_eq_false c41
     have c41b1 : decide ((rdOf ByteArray.empty t219 x20_1).size < x7_1.length) = false := decide_eq_false (fun h => c41 (Int.ofNat_lt.mpr h))
     clear c41
     have H' := Aside0.mk H
     clear H
     obtain ⟨Ao47, co47, eo47⟩ := Kd.R_slice HO_7.out
     subst eo47
     go_wp2
     go_roundg kj17
     case measure => have := HK1.out; have := HJ17.out; omega
     case rel => exact ⟨(((rdOf ByteArray.empty t219 x20_1).toList == a1.toList)), (x7_1), (wrap64 (x20_1 + 1)), (by first | rfl | (simp; done) | (simp [*]; done)), (by first | rfl | (simp; done) | (simp [*]; done)), H', ⟨by have := HK1.out; have := HJ17.out; omega⟩, ⟨by (with_reducible repeat (first | apply Kd.R_alloc | apply Kd.R_drewN | apply Kd.R_drew)); exact HO_5.out⟩, ⟨by (with_reducible repeat (first | apply Kd.R_alloc | apply Kd.R_drewN | apply Kd.R_drew)); exact HO_7.out⟩, ⟨by (with_reducible repeat (first | apply Kd.R_alloc | apply Kd.R_drewN | apply Kd.R_drew)); exact HO_18.out⟩, ⟨by (with_reducible repeat (first | refine blk_drewN ?_ _ | refine blk_drew ?_ | refine blk_alloc ?_ _)); exact BK216.out⟩, ⟨by repeat (first | (with_reducible first | exact HB.out | apply below_alloc | apply pw_below_drewN | apply below_drew1 | refine below_set ?_ GE216.out) | exact HB.out)⟩⟩
     )
     )
     )
   )
   (focus
   rw [if_neg c17] at H
   exact absurd H (by simp)
   )
   )
   (focus
   rw [if_neg c16] at H
   exact absurd H (by simp)
   )
   )
   (focus
   rw [if_neg c15] at H
   have c15b0 : decide (x20_1 < (t219.length : Int)) = false := decide_eq_false c15
   clear c15
   have HC48 := Aside0.mk H
   clear H
   go_upto_region 15 with (fail)
   go_cut [94] (fun v94 wc => ∃ (kq : Nat) (x94_47 : Bool), v94 = .bool x94_47 ∧ Aside0 (semigrouplaw07_DfaEnumerates.j2 kq t219 x7_1 x94_47 a0_0 a0_1 l0_2 l0_3 = some r) ∧ Aside0 (kq ≤ k1) ∧ Aside0 (Kd.R Kd.string 9 wc w.heap.size (fun _ => True) (.slice Ao14 t219.length co14) t219) ∧ Aside0 (Kd.R (Kd.int .i64) 3 wc w.heap.size (fun _ => True) v223 x7_1) ∧ Aside0 (wc.heap[gb216]? = some (.cells #[.int .i64 a0_0, .int .i64 a0_1, (.slice A0_2 l0_2.length c0_2), (.slice A0_3 l0_3.length c0_3)] 25 (0, 0))) ∧ Aside0 (Below w.heap.size w wc))
   case first =>
    have H := HC48.out
    clear HC48
    by_cases c49 : (t219.length : Int) > 40
    (focus
    rw [if_pos c49] at H
    have c49b0 : decide (40 < (t219.length : Int)) = true := decide_eq_true c49
    have c49b1 : decide (40 < t219.length) = true := decide_eq_true (by omega)
    clear c49
    (first | rw [c49b0] | (simp only [i64_w, i32_w]; rw [c49b0]) | skip)
    have H' := Aside0.mk H
    clear H
    go_wp2
    go_meet
    case rel => exact ⟨_, (true), (by first | rfl | (simp; done) | (simp [*]; done)), H', ⟨by have := HK1.out; first | omega | exact Nat.le_refl _⟩, ⟨by (with_reducible repeat (first | apply Kd.R_alloc | apply Kd.R_drewN | apply Kd.R_drew)); exact HO_5.out⟩, ⟨by (with_reducible repeat (first | apply Kd.R_alloc | apply Kd.R_drewN | apply Kd.R_drew)); exact HO_7.out⟩, ⟨by (with_reducible repeat (first | refine blk_drewN ?_ _ | refine blk_drew ?_ | refine blk_alloc ?_ _)); exact BK216.out⟩, ⟨by repeat (first | (with_reducible first | exact HB.out | apply below_alloc | apply pw_below_drewN | apply below_drew1 | refine below_set ?_ GE216.out) | exact HB.out)⟩⟩
    )
    (focus
    rw [if_neg c49] at H
    have c49b0 : decide (40 < (t219.length : Int)) = false := decide_eq_false c49
    have c49b1 : decide (40 < t219.length) = false := decide_eq_false (by omega)
    clear c49
    (first | rw [c49b0] | (simp only [i64_w, i32_w]; rw [c49b0]) | skip)
    replace H := Option.bind_eq_some_iff.mp H
    obtain ⟨t233, A500, H⟩ := H
    replace H : (if t233 = true then (if x6_1 = true then (semigrouplaw07_DfaEnumerates.j2 k1 t219 x7_1 false a0_0 a0_1 l0_2 l0_3) else (if (t219.length : Int) < 40 then (semigrouplaw07_DfaEnumerates.j2 k1 t219 x7_1 (decide ((a1.size : Int) ≤ 2048)) a0_0 a0_1 l0_2 l0_3) else (if 0 ≤ (wrap64 ((t219.length : Int) - 1)) then (if (wrap64 ((t219.length : Int) - 1)) < (t219.length : Int) then ((semigroupref01_Compare.f k1 a1 (rdOf ByteArray.empty t219 (wrap64 ((t219.length : Int) - 1)))).bind fun t235 => (if t235 < 0 then (semigrouplaw07_DfaEnumerates.j2 k1 t219 x7_1 (decide ((a1.size : Int) ≤ 2048)) a0_0 a0_1 l0_2 l0_3) else (semigrouplaw07_DfaEnumerates.j2 k1 t219 x7_1 false a0_0 a0_1 l0_2 l0_3))) else (none)) else (none)))) else (semigrouplaw07_DfaEnumerates.j2 k1 t219 x7_1 false a0_0 a0_1 l0_2 l0_3)) = some r := H
    have A50 := Aside0.mk A500
    clear A500
    by_cases c51 : t233 = true
    (focus
    subst c51
    have H1 : (if x6_1 = true then (semigrouplaw07_DfaEnumerates.j2 k1 t219 x7_1 false a0_0 a0_1 l0_2 l0_3) else (if (t219.length : Int) < 40 then (semigrouplaw07_DfaEnumerates.j2 k1 t219 x7_1 (decide ((a1.size : Int) ≤ 2048)) a0_0 a0_1 l0_2 l0_3) else (if 0 ≤ (wrap64 ((t219.length : Int) - 1)) then (if (wrap64 ((t219.length : Int) - 1)) < (t219.length : Int) then ((semigroupref01_Compare.f k1 a1 (rdOf ByteArray.empty t219 (wrap64 ((t219.length : Int) - 1)))).bind fun t235 => (if t235 < 0 then (semigrouplaw07_DfaEnumerates.j2 k1 t219 x7_1 (decide ((a1.size : Int) ≤ 2048)) a0_0 a0_1 l0_2 l0_3) else (semigrouplaw07_DfaEnumerates.j2 k1 t219 x7_1 false a0_0 a0_1 l0_2 l0_3))) else (none)) else (none)))) = some r := by rw [if_pos rfl] at H; exact H
    clear H
    have H := H1
    clear H1
    by_cases c52 : x6_1 = true
    (focus
    subst c52
    have H1 : (semigrouplaw07_DfaEnumerates.j2 k1 t219 x7_1 false a0_0 a0_1 l0_2 l0_3) = some r := by rw [if_pos rfl] at H; exact H
    clear H
    have H := H1
    clear H1
    have H' := Aside0.mk H
    clear H
    have hcz53_0 : wr.cell? ⟨gb216, 0, none⟩ = some (.int .i64 a0_0) := (blk_cell BK216.out 0).trans rfl
    have hcz53_1 : wr.cell? ⟨gb216, 1, none⟩ = some (.int .i64 a0_1) := (blk_cell BK216.out 1).trans rfl
    have hcz53_2 : wr.cell? ⟨gb216, 2, none⟩ = some (.slice A0_2 l0_2.length c0_2) := (blk_cell BK216.out 2).trans rfl
    have hcz53_3 : wr.cell? ⟨gb216, 3, none⟩ = some (.slice A0_3 l0_3.length c0_3) := (blk_cell BK216.out 3).trans rfl
    have hfz53_0 := blk_frozen BK216.out 0
    have hfz53_1 := blk_frozen BK216.out 1
    have hfz53_2 := blk_frozen BK216.out 2
    have hfz53_3 := blk_frozen BK216.out 3
    go_wp2_with (first | (go_at_call 24; (with_reducible refine (dfa_Accepts.calls k1 a0_0 a0_1 _ _ l0_2 _ _ l0_3 a1 true _ ?side1 ?side2 ?side3 ?side4 A50.out).mono ?_); (case side1 => repeat (first | exact (Kd.C_below HR0_2.out HB.out) | (with_reducible refine Kd.C_alloc ?_ _) | (with_reducible refine Kd.C_drewN ?_ _) | (with_reducible refine Kd.C_drew ?_))); (case side2 => exact HC0_2.out); (case side3 => repeat (first | exact (Kd.C_below HR0_3.out HB.out) | (with_reducible refine Kd.C_alloc ?_ _) | (with_reducible refine Kd.C_drewN ?_ _) | (with_reducible refine Kd.C_drew ?_))); (case side4 => exact HC0_3.out); rintro e w54 ⟨rfl, hb⟩; have n0_ := Aside0.mk (Kd.R_below (uR HO_5.out) hb); have n1_ := Aside0.mk (Kd.R_below (uR HO_7.out) hb); have n2_ := Aside0.mk (Kd.R_below (uR HO_18.out) hb); have n3_ := Aside0.mk (blk_below (g := gb216) (o := .cells #[.int .i64 a0_0, .int .i64 a0_1, .slice A0_2 l0_2.length c0_2, .slice A0_3 l0_3.length c0_3] 25 (0, 0)) (uB BK216.out) hb); have n4_ := Aside0.mk (below_step (by repeat (first | (with_reducible first | exact HB.out | apply below_alloc | apply pw_below_drewN | apply below_drew1 | refine below_set ?_ GE216.out) | exact HB.out)) hb); clear HO_5; clear HO_7; clear HO_18; clear BK216; clear HB; have HO_5 := n0_; have HO_7 := n1_; have HO_18 := n2_; have BK216 := n3_; have HB := n4_; clear n0_ n1_ n2_ n3_ n4_; (try clear hb); (try clear hb2); (try clear hk); (try clear hi)))
    go_meet
    case rel => exact ⟨_, (false), (by first | rfl | (simp; done) | (simp [*]; done)), H', ⟨by have := HK1.out; first | omega | exact Nat.le_refl _⟩, ⟨by (with_reducible repeat (first | apply Kd.R_alloc | apply Kd.R_drewN | apply Kd.R_drew)); exact HO_5.out⟩, ⟨by (with_reducible repeat (first | apply Kd.R_alloc | apply Kd.R_drewN | apply Kd.R_drew)); exact HO_7.out⟩, ⟨by (with_reducible repeat (first | refine blk_drewN ?_ _ | refine blk_drew ?_ | refine blk_alloc ?_ _)); exact BK216.out⟩, ⟨by repeat (first | (with_reducible first | exact HB.out | apply below_alloc | apply pw_below_drewN | apply below_drew1 | refine below_set ?_ GE216.out) | exact HB.out)⟩⟩
    )
    (focus
    replace c52 := Bool.eq_false_iff.mpr c52
    subst c52
    have H1 : (if (t219.length : Int) < 40 then (semigrouplaw07_DfaEnumerates.j2 k1 t219 x7_1 (decide ((a1.size : Int) ≤ 2048)) a0_0 a0_1 l0_2 l0_3) else (if 0 ≤ (wrap64 ((t219.length : Int) - 1)) then (if (wrap64 ((t219.length : Int) - 1)) < (t219.length : Int) then ((semigroupref01_Compare.f k1 a1 (rdOf ByteArray.empty t219 (wrap64 ((t219.length : Int) - 1)))).bind fun t235 => (if t235 < 0 then (semigrouplaw07_DfaEnumerates.j2 k1 t219 x7_1 (decide ((a1.size : Int) ≤ 2048)) a0_0 a0_1 l0_2 l0_3) else (semigrouplaw07_DfaEnumerates.j2 k1 t219 x7_1 false a0_0 a0_1 l0_2 l0_3))) else (none)) else (none))) = some r := by rw [if_neg (show ¬ (false = true) by decide)] at H; exact H
    clear H
    have H := H1
    clear H1
    by_cases c55 : (t219.length : Int) < 40
    (focus
    rw [if_pos c55] at H
    have c55b0 : decide ((t219.length : Int) < 40) = true := decide_eq_true c55
    have c55b1 : decide (t219.length < 40) = true := decide_eq_true (by omega)
    clear c55
    have H' := Aside0.mk H
    clear H
    have hcz56_0 : wr.cell? ⟨gb216, 0, none⟩ = some (.int .i64 a0_0) := (blk_cell BK216.out 0).trans rfl
    have hcz56_1 : wr.cell? ⟨gb216, 1, none⟩ = some (.int .i64 a0_1) := (blk_cell BK216.out 1).trans rfl
    have hcz56_2 : wr.cell? ⟨gb216, 2, none⟩ = some (.slice A0_2 l0_2.length c0_2) := (blk_cell BK216.out 2).trans rfl
    have hcz56_3 : wr.cell? ⟨gb216, 3, none⟩ = some (.slice A0_3 l0_3.length c0_3) := (blk_cell BK216.out 3).trans rfl
    have hfz56_0 := blk_frozen BK216.out 0
    have hfz56_1 := blk_frozen BK216.out 1
    have hfz56_2 := blk_frozen BK216.out 2
    have hfz56_3 := blk_frozen BK216.out 3
    go_wp2_with (first | (go_at_call 24; (with_reducible refine (dfa_Accepts.calls k1 a0_0 a0_1 _ _ l0_2 _ _ l0_3 a1 true _ ?side1 ?side2 ?side3 ?side4 A50.out).mono ?_); (case side1 => repeat (first | exact (Kd.C_below HR0_2.out HB.out) | (with_reducible refine Kd.C_alloc ?_ _) | (with_reducible refine Kd.C_drewN ?_ _) | (with_reducible refine Kd.C_drew ?_))); (case side2 => exact HC0_2.out); (case side3 => repeat (first | exact (Kd.C_below HR0_3.out HB.out) | (with_reducible refine Kd.C_alloc ?_ _) | (with_reducible refine Kd.C_drewN ?_ _) | (with_reducible refine Kd.C_drew ?_))); (case side4 => exact HC0_3.out); rintro e w57 ⟨rfl, hb⟩; have n0_ := Aside0.mk (Kd.R_below (uR HO_5.out) hb); have n1_ := Aside0.mk (Kd.R_below (uR HO_7.out) hb); have n2_ := Aside0.mk (Kd.R_below (uR HO_18.out) hb); have n3_ := Aside0.mk (blk_below (g := gb216) (o := .cells #[.int .i64 a0_0, .int .i64 a0_1, .slice A0_2 l0_2.length c0_2, .slice A0_3 l0_3.length c0_3] 25 (0, 0)) (uB BK216.out) hb); have n4_ := Aside0.mk (below_step (by repeat (first | (with_reducible first | exact HB.out | apply below_alloc | apply pw_below_drewN | apply below_drew1 | refine below_set ?_ GE216.out) | exact HB.out)) hb); clear HO_5; clear HO_7; clear HO_18; clear BK216; clear HB; have HO_5 := n0_; have HO_7 := n1_; have HO_18 := n2_; have BK216 := n3_; have HB := n4_; clear n0_ n1_ n2_ n3_ n4_; (try clear hb); (try clear hb2); (try clear hk); (try clear hi)))
    go_meet
    case rel => exact ⟨_, (decide ((a1.size : Int) ≤ 2048)), (by first | rfl | (simp; done) | (simp [*]; done)), H', ⟨by have := HK1.out; first | omega | exact Nat.le_refl _⟩, ⟨by (with_reducible repeat (first | apply Kd.R_alloc | apply Kd.R_drewN | apply Kd.R_drew)); exact HO_5.out⟩, ⟨by (with_reducible repeat (first | apply Kd.R_alloc | apply Kd.R_drewN | apply Kd.R_drew)); exact HO_7.out⟩, ⟨by (with_reducible repeat (first | refine blk_drewN ?_ _ | refine blk_drew ?_ | refine blk_alloc ?_ _)); exact BK216.out⟩, ⟨by repeat (first | (with_reducible first | exact HB.out | apply below_alloc | apply pw_below_drewN | apply below_drew1 | refine below_set ?_ GE216.out) | exact HB.out)⟩⟩
    )
    (focus
    rw [if_neg c55] at H
    have c55b0 : decide ((t219.length : Int) < 40) = false := decide_eq_false c55
    have c55b1 : decide (t219.length < 40) = false := decide_eq_false (by omega)
    clear c55
    obtain ⟨ji58, hji58⟩ : ∃ j_ : Int, (wrap64 ((t219.length : Int) - 1)) = j_ := ⟨_, rfl⟩
    replace H : (if 0 ≤ (ji58) then (if (ji58) < (t219.length : Int) then ((semigroupref01_Compare.f k1 a1 (rdOf ByteArray.empty t219 (ji58))).bind fun t235 => (if t235 < 0 then (semigrouplaw07_DfaEnumerates.j2 k1 t219 x7_1 (decide ((a1.size : Int) ≤ 2048)) a0_0 a0_1 l0_2 l0_3) else (semigrouplaw07_DfaEnumerates.j2 k1 t219 x7_1 false a0_0 a0_1 l0_2 l0_3))) else (none)) else (none)) = some r := by first | (rw [hji58] at H; exact H) | (simp only [hji58] at H ⊢; exact H)
    (try rw [hji58] at A50)
    have hji58w : (IntKind.i64.wrap ((t219.length : Int) - 1)) = ji58 := (i64_w _).trans hji58
    by_cases c59 : 0 ≤ (ji58)
    (focus
    rw [if_pos c59] at H
    have c59b0 : decide (0 ≤ (ji58)) = true := decide_eq_true c59
    clear c59
    by_cases c60 : (ji58) < (t219.length : Int)
    (focus
    rw [if_pos c60] at H
    have c60b0 : decide ((ji58) < (t219.length : Int)) = true := decide_eq_true c60
    clear c60
    replace H := Option.bind_eq_some_iff.mp H
    obtain ⟨t235, A610, H⟩ := H
    replace H : (if t235 < 0 then (semigrouplaw07_DfaEnumerates.j2 k1 t219 x7_1 (decide ((a1.size : Int) ≤ 2048)) a0_0 a0_1 l0_2 l0_3) else (semigrouplaw07_DfaEnumerates.j2 k1 t219 x7_1 false a0_0 a0_1 l0_2 l0_3)) = some r := H
    have A61 := Aside0.mk A610
    clear A610
    by_cases c62 : t235 < 0
    (focus
    rw [if_pos c62] at H
    have c62b0 : decide (t235 < 0) = true := decide_eq_true c62
    clear c62
    have H' := Aside0.mk H
    clear H
    have hcz63_0 : wr.cell? ⟨gb216, 0, none⟩ = some (.int .i64 a0_0) := (blk_cell BK216.out 0).trans rfl
    have hcz63_1 : wr.cell? ⟨gb216, 1, none⟩ = some (.int .i64 a0_1) := (blk_cell BK216.out 1).trans rfl
    have hcz63_2 : wr.cell? ⟨gb216, 2, none⟩ = some (.slice A0_2 l0_2.length c0_2) := (blk_cell BK216.out 2).trans rfl
    have hcz63_3 : wr.cell? ⟨gb216, 3, none⟩ = some (.slice A0_3 l0_3.length c0_3) := (blk_cell BK216.out 3).trans rfl
    have hfz63_0 := blk_frozen BK216.out 0
    have hfz63_1 := blk_frozen BK216.out 1
    have hfz63_2 := blk_frozen BK216.out 2
    have hfz63_3 := blk_frozen BK216.out 3
    go_wp2_with (first | (go_at_call 24; (with_reducible refine (dfa_Accepts.calls k1 a0_0 a0_1 _ _ l0_2 _ _ l0_3 a1 true _ ?side1 ?side2 ?side3 ?side4 A50.out).mono ?_); (case side1 => repeat (first | exact (Kd.C_below HR0_2.out HB.out) | (with_reducible refine Kd.C_alloc ?_ _) | (with_reducible refine Kd.C_drewN ?_ _) | (with_reducible refine Kd.C_drew ?_))); (case side2 => exact HC0_2.out); (case side3 => repeat (first | exact (Kd.C_below HR0_3.out HB.out) | (with_reducible refine Kd.C_alloc ?_ _) | (with_reducible refine Kd.C_drewN ?_ _) | (with_reducible refine Kd.C_drew ?_))); (case side4 => exact HC0_3.out); rintro e w64 ⟨rfl, hb⟩; have n0_ := Aside0.mk (Kd.R_below (uR HO_5.out) hb); have n1_ := Aside0.mk (Kd.R_below (uR HO_7.out) hb); have n2_ := Aside0.mk (Kd.R_below (uR HO_18.out) hb); have n3_ := Aside0.mk (blk_below (g := gb216) (o := .cells #[.int .i64 a0_0, .int .i64 a0_1, .slice A0_2 l0_2.length c0_2, .slice A0_3 l0_3.length c0_3] 25 (0, 0)) (uB BK216.out) hb); have n4_ := Aside0.mk (below_step (by repeat (first | (with_reducible first | exact HB.out | apply below_alloc | apply pw_below_drewN | apply below_drew1 | refine below_set ?_ GE216.out) | exact HB.out)) hb); clear HO_5; clear HO_7; clear HO_18; clear BK216; clear HB; have HO_5 := n0_; have HO_7 := n1_; have HO_18 := n2_; have BK216 := n3_; have HB := n4_; clear n0_ n1_ n2_ n3_ n4_; (try clear hb); (try clear hb2); (try clear hk); (try clear hi); have p234 : 0 ≤ ((ji58) : Int) := of_decide_eq_true (by first | (with_reducible assumption) | assumption); have q234 : (ji58) < (t219.length : Int) := of_decide_eq_true (by first | (with_reducible assumption) | assumption); obtain ⟨ad234, e234, hx234_0⟩ := Kd.at_string (Kd.R_reads' HO_5.out).2.2 (ji58) p234 q234; cases e234; replace p234 := eq_true p234; replace q234 := eq_true q234) | (go_at_call 34; (with_reducible refine (semigroupref01_Compare.calls k1 a1 (rdOf ByteArray.empty t219 (ji58)) t235 _ A61.out).mono ?_); rintro e w' ⟨rfl, ⟨nd, rfl⟩⟩))
    go_meet
    case rel => exact ⟨_, (decide ((a1.size : Int) ≤ 2048)), (by first | rfl | (simp; done) | (simp [*]; done)), H', ⟨by have := HK1.out; first | omega | exact Nat.le_refl _⟩, ⟨by (with_reducible repeat (first | apply Kd.R_alloc | apply Kd.R_drewN | apply Kd.R_drew)); exact HO_5.out⟩, ⟨by (with_reducible repeat (first | apply Kd.R_alloc | apply Kd.R_drewN | apply Kd.R_drew)); exact HO_7.out⟩, ⟨by (with_reducible repeat (first | refine blk_drewN ?_ _ | refine blk_drew ?_ | refine blk_alloc ?_ _)); exact BK216.out⟩, ⟨by repeat (first | (with_reducible first | exact HB.out | apply below_alloc | apply pw_below_drewN | apply below_drew1 | refine below_set ?_ GE216.out) | exact HB.out)⟩⟩
    )
    (focus
    rw [if_neg c62] at H
    have c62b0 : decide (t235 < 0) = false := decide_eq_false c62
    clear c62
    have H' := Aside0.mk H
    clear H
    have hcz65_0 : wr.cell? ⟨gb216, 0, none⟩ = some (.int .i64 a0_0) := (blk_cell BK216.out 0).trans rfl
    have hcz65_1 : wr.cell? ⟨gb216, 1, none⟩ = some (.int .i64 a0_1) := (blk_cell BK216.out 1).trans rfl
    have hcz65_2 : wr.cell? ⟨gb216, 2, none⟩ = some (.slice A0_2 l0_2.length c0_2) := (blk_cell BK216.out 2).trans rfl
    have hcz65_3 : wr.cell? ⟨gb216, 3, none⟩ = some (.slice A0_3 l0_3.length c0_3) := (blk_cell BK216.out 3).trans rfl
    have hfz65_0 := blk_frozen BK216.out 0
    have hfz65_1 := blk_frozen BK216.out 1
    have hfz65_2 := blk_frozen BK216.out 2
    have hfz65_3 := blk_frozen BK216.out 3
    go_wp2_with (first | (go_at_call 24; (with_reducible refine (dfa_Accepts.calls k1 a0_0 a0_1 _ _ l0_2 _ _ l0_3 a1 true _ ?side1 ?side2 ?side3 ?side4 A50.out).mono ?_); (case side1 => repeat (first | exact (Kd.C_below HR0_2.out HB.out) | (with_reducible refine Kd.C_alloc ?_ _) | (with_reducible refine Kd.C_drewN ?_ _) | (with_reducible refine Kd.C_drew ?_))); (case side2 => exact HC0_2.out); (case side3 => repeat (first | exact (Kd.C_below HR0_3.out HB.out) | (with_reducible refine Kd.C_alloc ?_ _) | (with_reducible refine Kd.C_drewN ?_ _) | (with_reducible refine Kd.C_drew ?_))); (case side4 => exact HC0_3.out); rintro e w66 ⟨rfl, hb⟩; have n0_ := Aside0.mk (Kd.R_below (uR HO_5.out) hb); have n1_ := Aside0.mk (Kd.R_below (uR HO_7.out) hb); have n2_ := Aside0.mk (Kd.R_below (uR HO_18.out) hb); have n3_ := Aside0.mk (blk_below (g := gb216) (o := .cells #[.int .i64 a0_0, .int .i64 a0_1, .slice A0_2 l0_2.length c0_2, .slice A0_3 l0_3.length c0_3] 25 (0, 0)) (uB BK216.out) hb); have n4_ := Aside0.mk (below_step (by repeat (first | (with_reducible first | exact HB.out | apply below_alloc | apply pw_below_drewN | apply below_drew1 | refine below_set ?_ GE216.out) | exact HB.out)) hb); clear HO_5; clear HO_7; clear HO_18; clear BK216; clear HB; have HO_5 := n0_; have HO_7 := n1_; have HO_18 := n2_; have BK216 := n3_; have HB := n4_; clear n0_ n1_ n2_ n3_ n4_; (try clear hb); (try clear hb2); (try clear hk); (try clear hi); have p234 : 0 ≤ ((ji58) : Int) := of_decide_eq_true (by first | (with_reducible assumption) | assumption); have q234 : (ji58) < (t219.length : Int) := of_decide_eq_true (by first | (with_reducible assumption) | assumption); obtain ⟨ad234, e234, hx234_0⟩ := Kd.at_string (Kd.R_reads' HO_5.out).2.2 (ji58) p234 q234; cases e234; replace p234 := eq_true p234; replace q234 := eq_true q234) | (go_at_call 34; (with_reducible refine (semigroupref01_Compare.calls k1 a1 (rdOf ByteArray.empty t219 (ji58)) t235 _ A61.out).mono ?_); rintro e w' ⟨rfl, ⟨nd, rfl⟩⟩))
    go_meet
    case rel => exact ⟨_, (false), (by first | rfl | (simp; done) | (simp [*]; done)), H', ⟨by have := HK1.out; first | omega | exact Nat.le_refl _⟩, ⟨by (with_reducible repeat (first | apply Kd.R_alloc | apply Kd.R_drewN | apply Kd.R_drew)); exact HO_5.out⟩, ⟨by (with_reducible repeat (first | apply Kd.R_alloc | apply Kd.R_drewN | apply Kd.R_drew)); exact HO_7.out⟩, ⟨by (with_reducible repeat (first | refine blk_drewN ?_ _ | refine blk_drew ?_ | refine blk_alloc ?_ _)); exact BK216.out⟩, ⟨by repeat (first | (with_reducible first | exact HB.out | apply below_alloc | apply pw_below_drewN | apply below_drew1 | refine below_set ?_ GE216.out) | exact HB.out)⟩⟩
    )
    )
    (focus
    rw [if_neg c60] at H
    exact absurd H (by simp)
    )
    )
    (focus
    rw [if_neg c59] at H
    exact absurd H (by simp)
    )
    )
    )
    )
    (focus
    replace c51 := Bool.eq_false_iff.mpr c51
    subst c51
    have H1 : (semigrouplaw07_DfaEnumerates.j2 k1 t219 x7_1 false a0_0 a0_1 l0_2 l0_3) = some r := by rw [if_neg (show ¬ (false = true) by decide)] at H; exact H
    clear H
    have H := H1
    clear H1
    have H' := Aside0.mk H
    clear H
    have hcz67_0 : wr.cell? ⟨gb216, 0, none⟩ = some (.int .i64 a0_0) := (blk_cell BK216.out 0).trans rfl
    have hcz67_1 : wr.cell? ⟨gb216, 1, none⟩ = some (.int .i64 a0_1) := (blk_cell BK216.out 1).trans rfl
    have hcz67_2 : wr.cell? ⟨gb216, 2, none⟩ = some (.slice A0_2 l0_2.length c0_2) := (blk_cell BK216.out 2).trans rfl
    have hcz67_3 : wr.cell? ⟨gb216, 3, none⟩ = some (.slice A0_3 l0_3.length c0_3) := (blk_cell BK216.out 3).trans rfl
    have hfz67_0 := blk_frozen BK216.out 0
    have hfz67_1 := blk_frozen BK216.out 1
    have hfz67_2 := blk_frozen BK216.out 2
    have hfz67_3 := blk_frozen BK216.out 3
    go_wp2_with (first | (go_at_call 24; (with_reducible refine (dfa_Accepts.calls k1 a0_0 a0_1 _ _ l0_2 _ _ l0_3 a1 false _ ?side1 ?side2 ?side3 ?side4 A50.out).mono ?_); (case side1 => repeat (first | exact (Kd.C_below HR0_2.out HB.out) | (with_reducible refine Kd.C_alloc ?_ _) | (with_reducible refine Kd.C_drewN ?_ _) | (with_reducible refine Kd.C_drew ?_))); (case side2 => exact HC0_2.out); (case side3 => repeat (first | exact (Kd.C_below HR0_3.out HB.out) | (with_reducible refine Kd.C_alloc ?_ _) | (with_reducible refine Kd.C_drewN ?_ _) | (with_reducible refine Kd.C_drew ?_))); (case side4 => exact HC0_3.out); rintro e w68 ⟨rfl, hb⟩; have n0_ := Aside0.mk (Kd.R_below (uR HO_5.out) hb); have n1_ := Aside0.mk (Kd.R_below (uR HO_7.out) hb); have n2_ := Aside0.mk (Kd.R_below (uR HO_18.out) hb); have n3_ := Aside0.mk (blk_below (g := gb216) (o := .cells #[.int .i64 a0_0, .int .i64 a0_1, .slice A0_2 l0_2.length c0_2, .slice A0_3 l0_3.length c0_3] 25 (0, 0)) (uB BK216.out) hb); have n4_ := Aside0.mk (below_step (by repeat (first | (with_reducible first | exact HB.out | apply below_alloc | apply pw_below_drewN | apply below_drew1 | refine below_set ?_ GE216.out) | exact HB.out)) hb); clear HO_5; clear HO_7; clear HO_18; clear BK216; clear HB; have HO_5 := n0_; have HO_7 := n1_; have HO_18 := n2_; have BK216 := n3_; have HB := n4_; clear n0_ n1_ n2_ n3_ n4_; (try clear hb); (try clear hb2); (try clear hk); (try clear hi)))
    go_meet
    case rel => exact ⟨_, (false), (by first | rfl | (simp; done) | (simp [*]; done)), H', ⟨by have := HK1.out; first | omega | exact Nat.le_refl _⟩, ⟨by (with_reducible repeat (first | apply Kd.R_alloc | apply Kd.R_drewN | apply Kd.R_drew)); exact HO_5.out⟩, ⟨by (with_reducible repeat (first | apply Kd.R_alloc | apply Kd.R_drewN | apply Kd.R_drew)); exact HO_7.out⟩, ⟨by (with_reducible repeat (first | refine blk_drewN ?_ _ | refine blk_drew ?_ | refine blk_alloc ?_ _)); exact BK216.out⟩, ⟨by repeat (first | (with_reducible first | exact HB.out | apply below_alloc | apply pw_below_drewN | apply below_drew1 | refine below_set ?_ GE216.out) | exact HB.out)⟩⟩
    )
    )
   case rest =>
    clear HC48
    try clear c1
    try clear c2
    try clear p2
    try clear q2
    try clear hx2
    try clear c3
    try clear p3
    try clear q3
    try clear hx3
    try clear hf3
    try clear c4
    try clear p4
    try clear q4
    try clear hx4
    try clear hf4
    try clear c5
    try clear c6
    try clear c6b0
    try clear c6b1
    try clear p6
    try clear c9
    try clear c15
    try clear c15b0
    try clear c16
    try clear c16b0
    try clear c17
    try clear c17b0
    try clear c18
    try clear c20
    try clear c21
    try clear c21b0
    try clear p22
    try clear q22
    try clear hx22
    try clear c23
    try clear c23b0
    try clear p23
    try clear q23
    try clear hx23
    try clear c24
    try clear c24b0
    try clear c32
    try clear c33
    try clear c34
    try clear c34b0
    try clear c34b1
    try clear c35
    try clear c35b0
    try clear c35b1
    try clear p36
    try clear q36
    try clear hx36
    try clear hf36
    try clear c41
    try clear c41b0
    try clear c41b1
    try clear c42
    try clear c42b0
    try clear c42b1
    try clear p43
    try clear q43
    try clear hx43
    try clear hf43
    try clear c49
    try clear c49b0
    try clear c49b1
    try clear c51
    try clear c52
    try clear c55
    try clear c55b0
    try clear c55b1
    try clear c59
    try clear c59b0
    try clear c60
    try clear c60b0
    try clear c62
    try clear c62b0
    try clear p64
    try clear hcz10_0
    try clear hcz10_1
    try clear hcz10_2
    try clear hcz10_3
    try clear hcz26_0
    try clear hcz26_1
    try clear hcz26_2
    try clear hcz26_3
    try clear hcz28_0
    try clear hcz28_1
    try clear hcz28_2
    try clear hcz28_3
    try clear hcz30_0
    try clear hcz30_1
    try clear hcz30_2
    try clear hcz30_3
    try clear hcz53_0
    try clear hcz53_1
    try clear hcz53_2
    try clear hcz53_3
    try clear hcz56_0
    try clear hcz56_1
    try clear hcz56_2
    try clear hcz56_3
    try clear hcz63_0
    try clear hcz63_1
    try clear hcz63_2
    try clear hcz63_3
    try clear hcz65_0
    try clear hcz65_1
    try clear hcz65_2
    try clear hcz65_3
    try clear hcz67_0
    try clear hcz67_1
    try clear hcz67_2
    try clear hcz67_3
    try clear hcz8_0
    try clear hcz8_1
    try clear hcz8_2
    try clear hcz8_3
    try clear hfz10_0
    try clear hfz10_1
    try clear hfz10_2
    try clear hfz10_3
    try clear hfz26_0
    try clear hfz26_1
    try clear hfz26_2
    try clear hfz26_3
    try clear hfz28_0
    try clear hfz28_1
    try clear hfz28_2
    try clear hfz28_3
    try clear hfz30_0
    try clear hfz30_1
    try clear hfz30_2
    try clear hfz30_3
    try clear hfz53_0
    try clear hfz53_1
    try clear hfz53_2
    try clear hfz53_3
    try clear hfz56_0
    try clear hfz56_1
    try clear hfz56_2
    try clear hfz56_3
    try clear hfz63_0
    try clear hfz63_1
    try clear hfz63_2
    try clear hfz63_3
    try clear hfz65_0
    try clear hfz65_1
    try clear hfz65_2
    try clear hfz65_3
    try clear hfz67_0
    try clear hfz67_1
    try clear hfz67_2
    try clear hfz67_3
    try clear hfz8_0
    try clear hfz8_1
    try clear hfz8_2
    try clear hfz8_3
    try clear hx225_0
    try clear hx227_0
    try clear hx229_0
    try clear hx231_0
    try clear hx234_0
    try clear hx36_0
    try clear hx43_0
    try clear p2
    try clear p22
    try clear p225
    try clear p227
    try clear p229
    try clear p231
    try clear p234
    try clear p36
    try clear p43
    try clear p6
    try clear q2
    try clear q22
    try clear q225
    try clear q227
    try clear q229
    try clear q231
    try clear q234
    try clear q36
    try clear q43
    obtain ⟨kq, x94_47, rfl, HA, HJ47, HO_5, HO_7, BK216, HB⟩ := hcut
    cases kq with
    | zero => exact absurd HA.out (by simp [semigrouplaw07_DfaEnumerates.j2])
    | succ kj47 =>
     have H := HA.out
     clear HA
     simp only [semigrouplaw07_DfaEnumerates.j2] at H
     by_cases c69 : x94_47 = true
     (focus
     subst c69
     have H1 : (some false) = some r := by rw [if_pos rfl] at H; exact H
     clear H
     have H := H1
     clear H1
     obtain rfl := Option.some.inj H
     go_wp2
     go_ret
     exact ⟨by first | rfl | (simp [errW_none, errW_some] <;> rfl) | (simp [*, errW_none, errW_some] <;> rfl), by repeat (first | (with_reducible first | exact HB.out | apply below_alloc | apply pw_below_drewN | apply below_drew1 | refine below_set ?_ GE216.out) | exact HB.out)⟩
     )
     (focus
     replace c69 := Bool.eq_false_iff.mpr c69
     subst c69
     have H1 : (semigrouplaw07_DfaEnumerates.l1 kj47 t219 x7_1 (x7_1.length : Int) 0 a0_0 a0_1 l0_2 l0_3) = some r := by rw [if_neg (show ¬ (false = true) by decide)] at H; exact H
     clear H
     have H := H1
     clear H1
     have H' := Aside0.mk H
     clear H
     obtain ⟨Ao70, co70, eo70⟩ := Kd.R_slice HO_7.out
     subst eo70
     go_wp2
     go_loopg [97] kj47 (fun kq v97 w' => ∃ (x97_3 : Int), v97 = .int .i64 x97_3 ∧ Aside0 (semigrouplaw07_DfaEnumerates.l1 kq t219 x7_1 (x7_1.length : Int) x97_3 a0_0 a0_1 l0_2 l0_3 = some r) ∧ Aside0 (kq ≤ kj47) ∧ Aside0 (Kd.R Kd.string 9 w' w.heap.size (fun _ => True) (.slice Ao14 t219.length co14) t219) ∧ Aside0 (Kd.R (Kd.int .i64) 3 w' w.heap.size (fun _ => True) (.slice Ao70 x7_1.length co70) x7_1) ∧ Aside0 (w'.heap[gb216]? = some (.cells #[.int .i64 a0_0, .int .i64 a0_1, (.slice A0_2 l0_2.length c0_2), (.slice A0_3 l0_3.length c0_3)] 25 (0, 0))) ∧ Aside0 (Below w.heap.size w w'))
     case atStart => exact ⟨(0), (by first | rfl | (simp; done) | (simp [*]; done)), H', ⟨Nat.le_refl _⟩, ⟨by (with_reducible repeat (first | apply Kd.R_alloc | apply Kd.R_drewN | apply Kd.R_drew)); exact HO_5.out⟩, ⟨by (with_reducible repeat (first | apply Kd.R_alloc | apply Kd.R_drewN | apply Kd.R_drew)); exact HO_7.out⟩, ⟨by (with_reducible repeat (first | refine blk_drewN ?_ _ | refine blk_drew ?_ | refine blk_alloc ?_ _)); exact BK216.out⟩, ⟨by repeat (first | (with_reducible first | exact HB.out | apply below_alloc | apply pw_below_drewN | apply below_drew1 | refine below_set ?_ GE216.out) | exact HB.out)⟩⟩
     case round =>
      clear H'
      try clear c1
      try clear c2
      try clear p2
      try clear q2
      try clear hx2
      try clear c3
      try clear p3
      try clear q3
      try clear hx3
      try clear hf3
      try clear c4
      try clear p4
      try clear q4
      try clear hx4
      try clear hf4
      try clear c5
      try clear c6
      try clear c6b0
      try clear c6b1
      try clear p6
      try clear c9
      try clear c15
      try clear c15b0
      try clear c16
      try clear c16b0
      try clear c17
      try clear c17b0
      try clear c18
      try clear c20
      try clear c21
      try clear c21b0
      try clear p22
      try clear q22
      try clear hx22
      try clear c23
      try clear c23b0
      try clear p23
      try clear q23
      try clear hx23
      try clear c24
      try clear c24b0
      try clear c32
      try clear c33
      try clear c34
      try clear c34b0
      try clear c34b1
      try clear c35
      try clear c35b0
      try clear c35b1
      try clear p36
      try clear q36
      try clear hx36
      try clear hf36
      try clear c41
      try clear c41b0
      try clear c41b1
      try clear c42
      try clear c42b0
      try clear c42b1
      try clear p43
      try clear q43
      try clear hx43
      try clear hf43
      try clear c49
      try clear c49b0
      try clear c49b1
      try clear c51
      try clear c52
      try clear c55
      try clear c55b0
      try clear c55b1
      try clear c59
      try clear c59b0
      try clear c60
      try clear c60b0
      try clear c62
      try clear c62b0
      try clear p64
      try clear c69
      try clear hcz10_0
      try clear hcz10_1
      try clear hcz10_2
      try clear hcz10_3
      try clear hcz26_0
      try clear hcz26_1
      try clear hcz26_2
      try clear hcz26_3
      try clear hcz28_0
      try clear hcz28_1
      try clear hcz28_2
      try clear hcz28_3
      try clear hcz30_0
      try clear hcz30_1
      try clear hcz30_2
      try clear hcz30_3
      try clear hcz53_0
      try clear hcz53_1
      try clear hcz53_2
      try clear hcz53_3
      try clear hcz56_0
      try clear hcz56_1
      try clear hcz56_2
      try clear hcz56_3
      try clear hcz63_0
      try clear hcz63_1
      try clear hcz63_2
      try clear hcz63_3
      try clear hcz65_0
      try clear hcz65_1
      try clear hcz65_2
      try clear hcz65_3
      try clear hcz67_0
      try clear hcz67_1
      try clear hcz67_2
      try clear hcz67_3
      try clear hcz8_0
      try clear hcz8_1
      try clear hcz8_2
      try clear hcz8_3
      try clear hfz10_0
      try clear hfz10_1
      try clear hfz10_2
      try clear hfz10_3
      try clear hfz26_0
      try clear hfz26_1
      try clear hfz26_2
      try clear hfz26_3
      try clear hfz28_0
      try clear hfz28_1
      try clear hfz28_2
      try clear hfz28_3
      try clear hfz30_0
      try clear hfz30_1
      try clear hfz30_2
      try clear hfz30_3
      try clear hfz53_0
      try clear hfz53_1
      try clear hfz53_2
      try clear hfz53_3
      try clear hfz56_0
      try clear hfz56_1
      try clear hfz56_2
      try clear hfz56_3
      try clear hfz63_0
      try clear hfz63_1
      try clear hfz63_2
      try clear hfz63_3
      try clear hfz65_0
      try clear hfz65_1
      try clear hfz65_2
      try clear hfz65_3
      try clear hfz67_0
      try clear hfz67_1
      try clear hfz67_2
      try clear hfz67_3
      try clear hfz8_0
      try clear hfz8_1
      try clear hfz8_2
      try clear hfz8_3
      try clear hx225_0
      try clear hx227_0
      try clear hx229_0
      try clear hx231_0
      try clear hx234_0
      try clear hx36_0
      try clear hx43_0
      try clear p2
      try clear p22
      try clear p225
      try clear p227
      try clear p229
      try clear p23
      try clear p231
      try clear p234
      try clear p3
      try clear p36
      try clear p4
      try clear p43
      try clear p6
      try clear p64
      try clear q2
      try clear q22
      try clear q225
      try clear q227
      try clear q229
      try clear q23
      try clear q231
      try clear q234
      try clear q3
      try clear q36
      try clear q4
      try clear q43
      obtain ⟨x97_3, rfl, HA, HK3, HO_5, HO_7, BK216, HB⟩ := hrel
      cases gk with
      | zero => exact absurd HA.out (by simp [semigrouplaw07_DfaEnumerates.l1])
      | succ k3 =>
       have H := HA.out
       clear HA
       simp only [semigrouplaw07_DfaEnumerates.l1] at H
       by_cases c71 : x97_3 < (x7_1.length : Int)
       (focus
       rw [if_pos c71] at H
       have c71b0 : decide (x97_3 < (x7_1.length : Int)) = true := decide_eq_true c71
       clear c71
       by_cases c72 : (t219.length : Int) < 40
       (focus
       rw [if_pos c72] at H
       have c72b0 : decide ((t219.length : Int) < 40) = true := decide_eq_true c72
       have c72b1 : decide (t219.length < 40) = true := decide_eq_true (by omega)
       clear c72
       replace H := Option.bind_eq_some_iff.mp H
       obtain ⟨t237, A730, H⟩ := H
       replace H : (if 0 ≤ x97_3 then (if x97_3 < (x7_1.length : Int) then (if t237 = (rd x7_1 x97_3) then (semigrouplaw07_DfaEnumerates.l1 k3 t219 x7_1 (x7_1.length : Int) (wrap64 (x97_3 + 1)) a0_0 a0_1 l0_2 l0_3) else (some false)) else (none)) else (none)) = some r := H
       have A73 := Aside0.mk A730
       clear A730
       by_cases c74 : 0 ≤ x97_3
       (focus
       rw [if_pos c74] at H
       have c74b0 : decide (0 ≤ x97_3) = true := decide_eq_true c74
       clear c74
       by_cases c75 : x97_3 < (x7_1.length : Int)
       (focus
       rw [if_pos c75] at H
       have c75b0 : decide (x97_3 < (x7_1.length : Int)) = true := decide_eq_true c75
       clear c75
       by_cases c76 : t237 = (rd x7_1 x97_3)
       (focus
       rw [if_pos c76] at H
       have c76b0 : (t237 == (rd x7_1 x97_3)) = true := beq_iff_eq.mpr c76
       have c76b1 : (t237 != (rd x7_1 x97_3)) = false := bne_eq_false_iff_eq.mpr c76
       clear c76
       have H' := Aside0.mk H
       clear H
       try go_wp2
       have n0_ := Aside0.mk (Kd.R_drew HO_5.out)
       have n1_ := Aside0.mk (Kd.R_drew HO_7.out)
       have n2_ := Aside0.mk (blk_drew BK216.out)
       have n3_ := Aside0.mk (below_drew1 HB.out)
       clear HO_5
       clear HO_7
       clear BK216
       clear HB
       have HO_5 := n0_
       have HO_7 := n1_
       have BK216 := n2_
       have HB := n3_
       clear n0_ n1_ n2_ n3_
       have p238 : 0 ≤ (x97_3 : Int) := of_decide_eq_true (by first | (with_reducible assumption) | assumption)
       have q238 : x97_3 < (x7_1.length : Int) := of_decide_eq_true (by first | (with_reducible assumption) | assumption)
       obtain ⟨ad238, e238, hx238_0⟩ := Kd.at_int (Kd.R_reads' HO_7.out).2.2 x97_3 p238 q238
       cases e238
       replace p238 := eq_true p238
       replace q238 := eq_true q238
       refine start_ (n := 24) (S := fun w' => w'.cell? ⟨gb216, 0, none⟩ = some (.int .i64 a0_0) ∧ w'.cell? ⟨gb216, 1, none⟩ = some (.int .i64 a0_1) ∧ w'.cell? ⟨gb216, 2, none⟩ = some (.slice A0_2 l0_2.length c0_2) ∧ w'.cell? ⟨gb216, 3, none⟩ = some (.slice A0_3 l0_3.length c0_3) ∧ w'.cell? (ad238.add (x97_3).toNat) = some (.int .i64 (rd x7_1 x97_3))) (ds := []) #[false, false, false, false, false, false, false, false, false, false, false, false, false, false, false, false, false, false, false, false, false, false, false, false] (by kernel_rfl) rfl rfl ⟨(blk_cell BK216.out 0).trans rfl, (blk_cell BK216.out 1).trans rfl, (blk_cell BK216.out 2).trans rfl, (blk_cell BK216.out 3).trans rfl, hx238_0⟩ (fun hHeld => ?_); refine with_tabW semigrouplaw07_DfaEnumerates.tab20 semigrouplaw07_DfaEnumerates.bits20 (fun HT_ HW_ => ?_)
       generalize wr.drew = w77 at HO_5 HO_7 BK216 HB hx238_0 hHeld ⊢
       refine pure_ (i := 0) (N := some 100) (v := ?_) (a' := ?_) #[true, false, false, false, false, false, false, false, false, false, false, false, false, false, false, false, false, false, false, false, false, false, false, false] rfl rfl (any_of HT_.out (by kernel_rfl)) (fun _ _ _ h => h) (Or.inl ⟨by rfl, ?_⟩) ?_ ?_
       rotate_left
       (focus
       intro w'
       go_simp
       with_reducible rfl
       )
       rotate_left
       (focus
       simp only [Act.put, List.setIfInBounds_toArray, List.set_cons_zero, List.set_cons_succ, i64_w, i32_w]
       rfl
       )
       refine pure_ (i := 1) (N := some 101) (v := ?_) (a' := ?_) #[true, true, false, false, false, false, false, false, false, false, false, false, false, false, false, false, false, false, false, false, false, false, false, false] rfl rfl (any_of HT_.out (by kernel_rfl)) (fun _ _ _ h => h) (Or.inl ⟨by rfl, ?_⟩) ?_ ?_
       rotate_left
       (focus
       intro w'
       go_simp
       with_reducible rfl
       )
       rotate_left
       (focus
       simp only [Act.put, List.setIfInBounds_toArray, List.set_cons_zero, List.set_cons_succ, i64_w, i32_w]
       rfl
       )
       refine pure_ (i := 2) (N := some 102) (v := ?_) (a' := ?_) #[true, true, true, false, false, false, false, false, false, false, false, false, false, false, false, false, false, false, false, false, false, false, false, false] rfl rfl (any_of HT_.out (by kernel_rfl)) (fun _ _ _ h => h) (Or.inl ⟨by rfl, ?_⟩) ?_ ?_
       rotate_left
       (focus
       intro w'
       go_simp
       with_reducible rfl
       )
       rotate_left
       (focus
       simp only [Act.put, List.setIfInBounds_toArray, List.set_cons_zero, List.set_cons_succ, i64_w, i32_w]
       rfl
       )
       refine pure_ (i := 3) (N := some 103) (v := ?_) (a' := ?_) #[true, true, true, true, false, false, false, false, false, false, false, false, false, false, false, false, false, false, false, false, false, false, false, false] rfl rfl (any_of HT_.out (by kernel_rfl)) (fun _ _ _ h => h) (Or.inl ⟨by rfl, ?_⟩) ?_ ?_
       rotate_left
       (focus
       intro w'
       go_simp
       with_reducible rfl
       )
       rotate_left
       (focus
       simp only [Act.put, List.setIfInBounds_toArray, List.set_cons_zero, List.set_cons_succ, i64_w, i32_w]
       rfl
       )
       refine pure_ (i := 4) (N := some 104) (v := undef) (a' := ?_) #[true, true, true, true, true, false, false, false, false, false, false, false, false, false, false, false, false, false, false, false, false, false, false, false] rfl rfl (any_of HT_.out (by kernel_rfl)) (fun _ _ _ h => h) (Or.inr ⟨by rfl, rfl⟩) ?_ ?_
       rotate_left
       (focus
       simp only [Act.put, List.setIfInBounds_toArray, List.set_cons_zero, List.set_cons_succ, i64_w, i32_w]
       rfl
       )
       refine pure_ (i := 5) (N := some 105) (v := undef) (a' := ?_) #[true, true, true, true, true, true, false, false, false, false, false, false, false, false, false, false, false, false, false, false, false, false, false, false] rfl rfl (any_of HT_.out (by kernel_rfl)) (fun _ _ _ h => h) (Or.inr ⟨by rfl, rfl⟩) ?_ ?_
       rotate_left
       (focus
       simp only [Act.put, List.setIfInBounds_toArray, List.set_cons_zero, List.set_cons_succ, i64_w, i32_w]
       rfl
       )
       refine pure_ (i := 6) (N := some 106) (v := undef) (a' := ?_) #[true, true, true, true, true, true, true, false, false, false, false, false, false, false, false, false, false, false, false, false, false, false, false, false] rfl rfl (any_of HT_.out (by kernel_rfl)) (fun _ _ _ h => h) (Or.inr ⟨by rfl, rfl⟩) ?_ ?_
       rotate_left
       (focus
       simp only [Act.put, List.setIfInBounds_toArray, List.set_cons_zero, List.set_cons_succ, i64_w, i32_w]
       rfl
       )
       refine pure_ (i := 7) (N := some 107) (v := undef) (a' := ?_) #[true, true, true, true, true, true, true, true, false, false, false, false, false, false, false, false, false, false, false, false, false, false, false, false] rfl rfl (any_of HT_.out (by kernel_rfl)) (fun _ _ _ h => h) (Or.inr ⟨by rfl, rfl⟩) ?_ ?_
       rotate_left
       (focus
       simp only [Act.put, List.setIfInBounds_toArray, List.set_cons_zero, List.set_cons_succ, i64_w, i32_w]
       rfl
       )
       refine pure_ (i := 8) (N := some 108) (v := undef) (a' := ?_) #[true, true, true, true, true, true, true, true, true, false, false, false, false, false, false, false, false, false, false, false, false, false, false, false] rfl rfl (any_of HT_.out (by kernel_rfl)) (fun _ _ _ h => h) (Or.inr ⟨by rfl, rfl⟩) ?_ ?_
       rotate_left
       (focus
       simp only [Act.put, List.setIfInBounds_toArray, List.set_cons_zero, List.set_cons_succ, i64_w, i32_w]
       rfl
       )
       refine pure_ (i := 9) (N := some 109) (v := undef) (a' := ?_) #[true, true, true, true, true, true, true, true, true, true, false, false, false, false, false, false, false, false, false, false, false, false, false, false] rfl rfl (any_of HT_.out (by kernel_rfl)) (fun _ _ _ h => h) (Or.inr ⟨by rfl, rfl⟩) ?_ ?_
       rotate_left
       (focus
       simp only [Act.put, List.setIfInBounds_toArray, List.set_cons_zero, List.set_cons_succ, i64_w, i32_w]
       rfl
       )
       refine pure_ (i := 10) (N := some 110) (v := undef) (a' := ?_) #[true, true, true, true, true, true, true, true, true, true, true, false, false, false, false, false, false, false, false, false, false, false, false, false] rfl rfl (any_of HT_.out (by kernel_rfl)) (fun _ _ _ h => h) (Or.inr ⟨by rfl, rfl⟩) ?_ ?_
       rotate_left
       (focus
       simp only [Act.put, List.setIfInBounds_toArray, List.set_cons_zero, List.set_cons_succ, i64_w, i32_w]
       rfl
       )
       refine pure_ (i := 11) (N := some 111) (v := undef) (a' := ?_) #[true, true, true, true, true, true, true, true, true, true, true, true, false, false, false, false, false, false, false, false, false, false, false, false] rfl rfl (any_of HT_.out (by kernel_rfl)) (fun _ _ _ h => h) (Or.inr ⟨by rfl, rfl⟩) ?_ ?_
       rotate_left
       (focus
       simp only [Act.put, List.setIfInBounds_toArray, List.set_cons_zero, List.set_cons_succ, i64_w, i32_w]
       rfl
       )
       refine pure_ (i := 12) (N := some 112) (v := undef) (a' := ?_) #[true, true, true, true, true, true, true, true, true, true, true, true, true, false, false, false, false, false, false, false, false, false, false, false] rfl rfl (any_of HT_.out (by kernel_rfl)) (fun _ _ _ h => h) (Or.inr ⟨by rfl, rfl⟩) ?_ ?_
       rotate_left
       (focus
       simp only [Act.put, List.setIfInBounds_toArray, List.set_cons_zero, List.set_cons_succ, i64_w, i32_w]
       rfl
       )
       refine pure_ (i := 13) (N := some 113) (v := ?_) (a' := ?_) #[true, true, true, true, true, true, true, true, true, true, true, true, true, true, false, false, false, false, false, false, false, false, false, false] rfl rfl (any_of HT_.out (by kernel_rfl)) (fun _ _ _ h => h) (Or.inl ⟨by rfl, ?_⟩) ?_ ?_
       rotate_left
       (focus
       intro w'
       go_simp
       with_reducible rfl
       )
       rotate_left
       (focus
       simp only [Act.put, List.setIfInBounds_toArray, List.set_cons_zero, List.set_cons_succ, i64_w, i32_w]
       rfl
       )
       refine pure_ (i := 14) (N := some 114) (v := ?_) (a' := ?_) #[true, true, true, true, true, true, true, true, true, true, true, true, true, true, true, false, false, false, false, false, false, false, false, false] rfl rfl (any_of HT_.out (by kernel_rfl)) (fun _ _ _ h => h) (Or.inl ⟨by rfl, ?_⟩) ?_ ?_
       rotate_left
       (focus
       intro w'
       go_simp
       with_reducible rfl
       )
       rotate_left
       (focus
       simp only [Act.put, List.setIfInBounds_toArray, List.set_cons_zero, List.set_cons_succ, i64_w, i32_w]
       rfl
       )
       refine pure_ (i := 16) (N := some 116) (v := ?_) (a' := ?_) #[true, true, true, true, true, true, true, true, true, true, true, true, true, true, true, false, true, false, false, false, false, false, false, false] rfl rfl (any_of HT_.out (by kernel_rfl)) (fun _ _ _ h => h) (Or.inl ⟨by rfl, ?_⟩) ?_ ?_
       rotate_left
       (focus
       intro w'
       go_simp
       with_reducible rfl
       )
       rotate_left
       (focus
       simp only [Act.put, List.setIfInBounds_toArray, List.set_cons_zero, List.set_cons_succ, i64_w, i32_w]
       rfl
       )
       refine pure_ (i := 18) (N := some 118) (v := ?_) (a' := ?_) #[true, true, true, true, true, true, true, true, true, true, true, true, true, true, true, false, true, false, true, false, false, false, false, false] rfl rfl (any_of HT_.out (by kernel_rfl)) (fun _ _ _ h => h) (Or.inl ⟨by rfl, ?_⟩) ?_ ?_
       rotate_left
       (focus
       intro w'
       go_simp
       with_reducible rfl
       )
       rotate_left
       (focus
       simp only [Act.put, List.setIfInBounds_toArray, List.set_cons_zero, List.set_cons_succ, i64_w, i32_w]
       rfl
       )
       refine pure_ (i := 19) (N := some 119) (v := ?_) (a' := ?_) #[true, true, true, true, true, true, true, true, true, true, true, true, true, true, true, false, true, false, true, true, false, false, false, false] rfl rfl (any_of HT_.out (by kernel_rfl)) (fun _ _ _ h => h) (Or.inl ⟨by rfl, ?_⟩) ?_ ?_
       rotate_left
       (focus
       intro w'
       go_simp
       with_reducible rfl
       )
       rotate_left
       (focus
       simp only [Act.put, List.setIfInBounds_toArray, List.set_cons_zero, List.set_cons_succ, i64_w, i32_w]
       rfl
       )
       refine pure_ (i := 20) (N := some 120) (v := ?_) (a' := ?_) #[true, true, true, true, true, true, true, true, true, true, true, true, true, true, true, false, true, false, true, true, true, false, false, false] rfl rfl (any_of HT_.out (by kernel_rfl)) (fun _ _ _ h => h) (Or.inl ⟨by rfl, ?_⟩) ?_ ?_
       rotate_left
       (focus
       intro w'
       go_simp
       with_reducible rfl
       )
       rotate_left
       (focus
       simp only [Act.put, List.setIfInBounds_toArray, List.set_cons_zero, List.set_cons_succ, i64_w, i32_w]
       rfl
       )
       refine take_ (i := 15) (N := some 115) (v := ?_) (a' := ?_) #[true, true, true, true, true, true, true, true, true, true, true, true, true, true, true, true, true, false, true, true, true, false, false, false] rfl rfl (take_ofW HT_.out HW_.out (by kernel_rfl)) (fun _ _ _ h => h) (Or.inl ⟨by rfl, ?_⟩) hHeld ?_ ?_
       rotate_left
       (focus
       rintro w' ⟨s0, s1, s2, s3, s4⟩
       go_simp
       with_reducible rfl
       )
       rotate_left
       (focus
       simp only [Act.put, List.setIfInBounds_toArray, List.set_cons_zero, List.set_cons_succ, i64_w, i32_w]
       rfl
       )
       refine take_ (i := 21) (N := some 121) (v := ?_) (a' := ?_) #[true, true, true, true, true, true, true, true, true, true, true, true, true, true, true, true, true, false, true, true, true, true, false, false] rfl rfl (take_ofW HT_.out HW_.out (by kernel_rfl)) (fun _ _ _ h => h) (Or.inl ⟨by rfl, ?_⟩) hHeld ?_ ?_
       rotate_left
       (focus
       rintro w' ⟨s0, s1, s2, s3, s4⟩
       go_simp
       with_reducible rfl
       )
       rotate_left
       (focus
       simp only [Act.put, List.setIfInBounds_toArray, List.set_cons_zero, List.set_cons_succ, i64_w, i32_w]
       rfl
       )
       refine one_ (i := 17) (N := some 117) #[true, true, true, true, true, true, true, true, true, true, true, true, true, true, true, true, true, true, true, true, true, true, false, false] rfl rfl (one_of HT_.out (by kernel_rfl)) (by decide) (fun K hK => ?_)
       refine goes_ Try.func21 (by kernel_rfl) rfl #[.agg #[.int .i64 a0_0, .int .i64 a0_1, .slice A0_2 l0_2.length c0_2, .slice A0_3 l0_3.length c0_3], .int .i64 x97_3] (by rfl) rfl rfl (by (try simp only [List.map_toArray, List.map_cons, List.map_nil]); first | done | rfl | (simp only [List.length_drop, List.length_take]; rfl)) ?_
       with_reducible refine (dfa_Count.calls k3 a0_0 a0_1 _ _ l0_2 _ _ l0_3 x97_3 t237 _ ?side1 ?side2 ?side3 ?side4 A73.out).mono ?_
       (case side1 => repeat (first | exact (Kd.C_below HR0_2.out HB.out) | (with_reducible refine Kd.C_alloc ?_ _) | (with_reducible refine Kd.C_drewN ?_ _) | (with_reducible refine Kd.C_drew ?_)))
       (case side2 => exact HC0_2.out)
       (case side3 => repeat (first | exact (Kd.C_below HR0_3.out HB.out) | (with_reducible refine Kd.C_alloc ?_ _) | (with_reducible refine Kd.C_drewN ?_ _) | (with_reducible refine Kd.C_drew ?_)))
       (case side4 => exact HC0_3.out)
       rintro e w78 ⟨rfl, hb⟩
       have HS4_ := (hb.cell (World.block_lt_of_cell? _ _ (hHeld.2.2.2.2))).trans (hHeld.2.2.2.2)
       refine ⟨_, rfl, ?_⟩
       have n0_ := Aside0.mk (Kd.R_below (uR HO_5.out) hb)
       have n1_ := Aside0.mk (Kd.R_below (uR HO_7.out) hb)
       have n2_ := Aside0.mk (blk_below (g := gb216) (o := .cells #[.int .i64 a0_0, .int .i64 a0_1, .slice A0_2 l0_2.length c0_2, .slice A0_3 l0_3.length c0_3] 25 (0, 0)) (uB BK216.out) hb)
       have n3_ := Aside0.mk (below_step (by repeat (first | (with_reducible first | exact HB.out | apply below_alloc | apply pw_below_drewN | apply below_drew1 | refine below_set ?_ GE216.out) | exact HB.out)) hb)
       clear HO_5
       clear HO_7
       clear BK216
       clear HB
       have HO_5 := n0_
       have HO_7 := n1_
       have BK216 := n2_
       have HB := n3_
       clear n0_ n1_ n2_ n3_
       (try clear hb)
       (try clear hb2)
       (try clear hk)
       (try clear hi)
       refine hK.out _ _ ⟨(blk_cell BK216.out 0).trans rfl, (blk_cell BK216.out 1).trans rfl, (blk_cell BK216.out 2).trans rfl, (blk_cell BK216.out 3).trans rfl, HS4_⟩ (fun hHeld => ?_)
       clear hK K
       refine norm_ (a' := ?_) ?_ ?_
       rotate_left
       (focus
       show Act.put _ (some 117) _ = _
       simp only [Act.put, List.setIfInBounds_toArray, List.set_cons_zero, List.set_cons_succ, i64_w, i32_w]
       rfl
       )
       refine pure_ (i := 22) (N := some 122) (v := ?_) (a' := ?_) #[true, true, true, true, true, true, true, true, true, true, true, true, true, true, true, true, true, true, true, true, true, true, true, false] rfl rfl (any_of HT_.out (by kernel_rfl)) (fun _ _ _ h => h) (Or.inl ⟨by rfl, ?_⟩) ?_ ?_
       rotate_left
       (focus
       intro w'
       go_simp
       with_reducible rfl
       )
       rotate_left
       (focus
       simp only [Act.put, List.setIfInBounds_toArray, List.set_cons_zero, List.set_cons_succ, i64_w, i32_w]
       rfl
       )
       refine pure_ (i := 23) (N := some 123) (v := ?_) (a' := ?_) #[true, true, true, true, true, true, true, true, true, true, true, true, true, true, true, true, true, true, true, true, true, true, true, true] rfl rfl (any_of HT_.out (by kernel_rfl)) (fun _ _ _ h => h) (Or.inl ⟨by rfl, ?_⟩) ?_ ?_
       rotate_left
       (focus
       intro w'
       go_simp
       with_reducible rfl
       )
       rotate_left
       (focus
       simp only [Act.put, List.setIfInBounds_toArray, List.set_cons_zero, List.set_cons_succ, i64_w, i32_w]
       rfl
       )
       refine done_ (done_of HT_.out (by kernel_rfl)) ?_
       try go_wp2
       go_roundg k3
       case measure => have := HK1.out; have := HJ47.out; have := HK3.out; omega
       case rel => exact ⟨(wrap64 (x97_3 + 1)), (by first | rfl | (simp; done) | (simp [*]; done)), H', ⟨by have := HK1.out; have := HJ47.out; have := HK3.out; omega⟩, ⟨by (with_reducible repeat (first | apply Kd.R_alloc | apply Kd.R_drewN | apply Kd.R_drew)); exact HO_5.out⟩, ⟨by (with_reducible repeat (first | apply Kd.R_alloc | apply Kd.R_drewN | apply Kd.R_drew)); exact HO_7.out⟩, ⟨by (with_reducible repeat (first | refine blk_drewN ?_ _ | refine blk_drew ?_ | refine blk_alloc ?_ _)); exact BK216.out⟩, ⟨by repeat (first | (with_reducible first | exact HB.out | apply below_alloc | apply pw_below_drewN | apply below_drew1 | refine below_set ?_ GE216.out) | exact HB.out)⟩⟩
       )
       (focus
       rw [if_neg c76] at H
       have c76b0 : (t237 == (rd x7_1 x97_3)) = false := beq_eq_false_iff_ne.mpr c76
       have c76b1 : (t237 != (rd x7_1 x97_3)) = true := bne_iff_ne.mpr c76
       obtain rfl := Option.some.inj H
       try go_wp2
       have n0_ := Aside0.mk (Kd.R_drew HO_5.out)
       have n1_ := Aside0.mk (Kd.R_drew HO_7.out)
       have n2_ := Aside0.mk (blk_drew BK216.out)
       have n3_ := Aside0.mk (below_drew1 HB.out)
       clear HO_5
       clear HO_7
       clear BK216
       clear HB
       have HO_5 := n0_
       have HO_7 := n1_
       have BK216 := n2_
       have HB := n3_
       clear n0_ n1_ n2_ n3_
       have p238 : 0 ≤ (x97_3 : Int) := of_decide_eq_true (by first | (with_reducible assumption) | assumption)
       have q238 : x97_3 < (x7_1.length : Int) := of_decide_eq_true (by first | (with_reducible assumption) | assumption)
       obtain ⟨ad238, e238, hx238_0⟩ := Kd.at_int (Kd.R_reads' HO_7.out).2.2 x97_3 p238 q238
       cases e238
       replace p238 := eq_true p238
       replace q238 := eq_true q238
       refine start_ (n := 24) (S := fun w' => w'.cell? ⟨gb216, 0, none⟩ = some (.int .i64 a0_0) ∧ w'.cell? ⟨gb216, 1, none⟩ = some (.int .i64 a0_1) ∧ w'.cell? ⟨gb216, 2, none⟩ = some (.slice A0_2 l0_2.length c0_2) ∧ w'.cell? ⟨gb216, 3, none⟩ = some (.slice A0_3 l0_3.length c0_3) ∧ w'.cell? (ad238.add (x97_3).toNat) = some (.int .i64 (rd x7_1 x97_3))) (ds := []) #[false, false, false, false, false, false, false, false, false, false, false, false, false, false, false, false, false, false, false, false, false, false, false, false] (by kernel_rfl) rfl rfl ⟨(blk_cell BK216.out 0).trans rfl, (blk_cell BK216.out 1).trans rfl, (blk_cell BK216.out 2).trans rfl, (blk_cell BK216.out 3).trans rfl, hx238_0⟩ (fun hHeld => ?_); refine with_tabW semigrouplaw07_DfaEnumerates.tab20 semigrouplaw07_DfaEnumerates.bits20 (fun HT_ HW_ => ?_)
       generalize wr.drew = w79 at HO_5 HO_7 BK216 HB hx238_0 hHeld ⊢
       refine pure_ (i := 0) (N := some 100) (v := ?_) (a' := ?_) #[true, false, false, false, false, false, false, false, false, false, false, false, false, false, false, false, false, false, false, false, false, false, false, false] rfl rfl (any_of HT_.out (by kernel_rfl)) (fun _ _ _ h => h) (Or.inl ⟨by rfl, ?_⟩) ?_ ?_
       rotate_left
       (focus
       intro w'
       go_simp
       with_reducible rfl
       )
       rotate_left
       (focus
       simp only [Act.put, List.setIfInBounds_toArray, List.set_cons_zero, List.set_cons_succ, i64_w, i32_w]
       rfl
       )
       refine pure_ (i := 1) (N := some 101) (v := ?_) (a' := ?_) #[true, true, false, false, false, false, false, false, false, false, false, false, false, false, false, false, false, false, false, false, false, false, false, false] rfl rfl (any_of HT_.out (by kernel_rfl)) (fun _ _ _ h => h) (Or.inl ⟨by rfl, ?_⟩) ?_ ?_
       rotate_left
       (focus
       intro w'
       go_simp
       with_reducible rfl
       )
       rotate_left
       (focus
       simp only [Act.put, List.setIfInBounds_toArray, List.set_cons_zero, List.set_cons_succ, i64_w, i32_w]
       rfl
       )
       refine pure_ (i := 2) (N := some 102) (v := ?_) (a' := ?_) #[true, true, true, false, false, false, false, false, false, false, false, false, false, false, false, false, false, false, false, false, false, false, false, false] rfl rfl (any_of HT_.out (by kernel_rfl)) (fun _ _ _ h => h) (Or.inl ⟨by rfl, ?_⟩) ?_ ?_
       rotate_left
       (focus
       intro w'
       go_simp
       with_reducible rfl
       )
       rotate_left
       (focus
       simp only [Act.put, List.setIfInBounds_toArray, List.set_cons_zero, List.set_cons_succ, i64_w, i32_w]
       rfl
       )
       refine pure_ (i := 3) (N := some 103) (v := ?_) (a' := ?_) #[true, true, true, true, false, false, false, false, false, false, false, false, false, false, false, false, false, false, false, false, false, false, false, false] rfl rfl (any_of HT_.out (by kernel_rfl)) (fun _ _ _ h => h) (Or.inl ⟨by rfl, ?_⟩) ?_ ?_
       rotate_left
       (focus
       intro w'
       go_simp
       with_reducible rfl
       )
       rotate_left
       (focus
       simp only [Act.put, List.setIfInBounds_toArray, List.set_cons_zero, List.set_cons_succ, i64_w, i32_w]
       rfl
       )
       refine pure_ (i := 4) (N := some 104) (v := undef) (a' := ?_) #[true, true, true, true, true, false, false, false, false, false, false, false, false, false, false, false, false, false, false, false, false, false, false, false] rfl rfl (any_of HT_.out (by kernel_rfl)) (fun _ _ _ h => h) (Or.inr ⟨by rfl, rfl⟩) ?_ ?_
       rotate_left
       (focus
       simp only [Act.put, List.setIfInBounds_toArray, List.set_cons_zero, List.set_cons_succ, i64_w, i32_w]
       rfl
       )
       refine pure_ (i := 5) (N := some 105) (v := undef) (a' := ?_) #[true, true, true, true, true, true, false, false, false, false, false, false, false, false, false, false, false, false, false, false, false, false, false, false] rfl rfl (any_of HT_.out (by kernel_rfl)) (fun _ _ _ h => h) (Or.inr ⟨by rfl, rfl⟩) ?_ ?_
       rotate_left
       (focus
       simp only [Act.put, List.setIfInBounds_toArray, List.set_cons_zero, List.set_cons_succ, i64_w, i32_w]
       rfl
       )
       refine pure_ (i := 6) (N := some 106) (v := undef) (a' := ?_) #[true, true, true, true, true, true, true, false, false, false, false, false, false, false, false, false, false, false, false, false, false, false, false, false] rfl rfl (any_of HT_.out (by kernel_rfl)) (fun _ _ _ h => h) (Or.inr ⟨by rfl, rfl⟩) ?_ ?_
       rotate_left
       (focus
       simp only [Act.put, List.setIfInBounds_toArray, List.set_cons_zero, List.set_cons_succ, i64_w, i32_w]
       rfl
       )
       refine pure_ (i := 7) (N := some 107) (v := undef) (a' := ?_) #[true, true, true, true, true, true, true, true, false, false, false, false, false, false, false, false, false, false, false, false, false, false, false, false] rfl rfl (any_of HT_.out (by kernel_rfl)) (fun _ _ _ h => h) (Or.inr ⟨by rfl, rfl⟩) ?_ ?_
       rotate_left
       (focus
       simp only [Act.put, List.setIfInBounds_toArray, List.set_cons_zero, List.set_cons_succ, i64_w, i32_w]
       rfl
       )
       refine pure_ (i := 8) (N := some 108) (v := undef) (a' := ?_) #[true, true, true, true, true, true, true, true, true, false, false, false, false, false, false, false, false, false, false, false, false, false, false, false] rfl rfl (any_of HT_.out (by kernel_rfl)) (fun _ _ _ h => h) (Or.inr ⟨by rfl, rfl⟩) ?_ ?_
       rotate_left
       (focus
       simp only [Act.put, List.setIfInBounds_toArray, List.set_cons_zero, List.set_cons_succ, i64_w, i32_w]
       rfl
       )
       refine pure_ (i := 9) (N := some 109) (v := undef) (a' := ?_) #[true, true, true, true, true, true, true, true, true, true, false, false, false, false, false, false, false, false, false, false, false, false, false, false] rfl rfl (any_of HT_.out (by kernel_rfl)) (fun _ _ _ h => h) (Or.inr ⟨by rfl, rfl⟩) ?_ ?_
       rotate_left
       (focus
       simp only [Act.put, List.setIfInBounds_toArray, List.set_cons_zero, List.set_cons_succ, i64_w, i32_w]
       rfl
       )
       refine pure_ (i := 10) (N := some 110) (v := undef) (a' := ?_) #[true, true, true, true, true, true, true, true, true, true, true, false, false, false, false, false, false, false, false, false, false, false, false, false] rfl rfl (any_of HT_.out (by kernel_rfl)) (fun _ _ _ h => h) (Or.inr ⟨by rfl, rfl⟩) ?_ ?_
       rotate_left
       (focus
       simp only [Act.put, List.setIfInBounds_toArray, List.set_cons_zero, List.set_cons_succ, i64_w, i32_w]
       rfl
       )
       refine pure_ (i := 11) (N := some 111) (v := undef) (a' := ?_) #[true, true, true, true, true, true, true, true, true, true, true, true, false, false, false, false, false, false, false, false, false, false, false, false] rfl rfl (any_of HT_.out (by kernel_rfl)) (fun _ _ _ h => h) (Or.inr ⟨by rfl, rfl⟩) ?_ ?_
       rotate_left
       (focus
       simp only [Act.put, List.setIfInBounds_toArray, List.set_cons_zero, List.set_cons_succ, i64_w, i32_w]
       rfl
       )
       refine pure_ (i := 12) (N := some 112) (v := undef) (a' := ?_) #[true, true, true, true, true, true, true, true, true, true, true, true, true, false, false, false, false, false, false, false, false, false, false, false] rfl rfl (any_of HT_.out (by kernel_rfl)) (fun _ _ _ h => h) (Or.inr ⟨by rfl, rfl⟩) ?_ ?_
       rotate_left
       (focus
       simp only [Act.put, List.setIfInBounds_toArray, List.set_cons_zero, List.set_cons_succ, i64_w, i32_w]
       rfl
       )
       refine pure_ (i := 13) (N := some 113) (v := ?_) (a' := ?_) #[true, true, true, true, true, true, true, true, true, true, true, true, true, true, false, false, false, false, false, false, false, false, false, false] rfl rfl (any_of HT_.out (by kernel_rfl)) (fun _ _ _ h => h) (Or.inl ⟨by rfl, ?_⟩) ?_ ?_
       rotate_left
       (focus
       intro w'
       go_simp
       with_reducible rfl
       )
       rotate_left
       (focus
       simp only [Act.put, List.setIfInBounds_toArray, List.set_cons_zero, List.set_cons_succ, i64_w, i32_w]
       rfl
       )
       refine pure_ (i := 14) (N := some 114) (v := ?_) (a' := ?_) #[true, true, true, true, true, true, true, true, true, true, true, true, true, true, true, false, false, false, false, false, false, false, false, false] rfl rfl (any_of HT_.out (by kernel_rfl)) (fun _ _ _ h => h) (Or.inl ⟨by rfl, ?_⟩) ?_ ?_
       rotate_left
       (focus
       intro w'
       go_simp
       with_reducible rfl
       )
       rotate_left
       (focus
       simp only [Act.put, List.setIfInBounds_toArray, List.set_cons_zero, List.set_cons_succ, i64_w, i32_w]
       rfl
       )
       refine pure_ (i := 16) (N := some 116) (v := ?_) (a' := ?_) #[true, true, true, true, true, true, true, true, true, true, true, true, true, true, true, false, true, false, false, false, false, false, false, false] rfl rfl (any_of HT_.out (by kernel_rfl)) (fun _ _ _ h => h) (Or.inl ⟨by rfl, ?_⟩) ?_ ?_
       rotate_left
       (focus
       intro w'
       go_simp
       with_reducible rfl
       )
       rotate_left
       (focus
       simp only [Act.put, List.setIfInBounds_toArray, List.set_cons_zero, List.set_cons_succ, i64_w, i32_w]
       rfl
       )
       refine pure_ (i := 18) (N := some 118) (v := ?_) (a' := ?_) #[true, true, true, true, true, true, true, true, true, true, true, true, true, true, true, false, true, false, true, false, false, false, false, false] rfl rfl (any_of HT_.out (by kernel_rfl)) (fun _ _ _ h => h) (Or.inl ⟨by rfl, ?_⟩) ?_ ?_
       rotate_left
       (focus
       intro w'
       go_simp
       with_reducible rfl
       )
       rotate_left
       (focus
       simp only [Act.put, List.setIfInBounds_toArray, List.set_cons_zero, List.set_cons_succ, i64_w, i32_w]
       rfl
       )
       refine pure_ (i := 19) (N := some 119) (v := ?_) (a' := ?_) #[true, true, true, true, true, true, true, true, true, true, true, true, true, true, true, false, true, false, true, true, false, false, false, false] rfl rfl (any_of HT_.out (by kernel_rfl)) (fun _ _ _ h => h) (Or.inl ⟨by rfl, ?_⟩) ?_ ?_
       rotate_left
       (focus
       intro w'
       go_simp
       with_reducible rfl
       )
       rotate_left
       (focus
       simp only [Act.put, List.setIfInBounds_toArray, List.set_cons_zero, List.set_cons_succ, i64_w, i32_w]
       rfl
       )
       refine pure_ (i := 20) (N := some 120) (v := ?_) (a' := ?_) #[true, true, true, true, true, true, true, true, true, true, true, true, true, true, true, false, true, false, true, true, true, false, false, false] rfl rfl (any_of HT_.out (by kernel_rfl)) (fun _ _ _ h => h) (Or.inl ⟨by rfl, ?_⟩) ?_ ?_
       rotate_left
       (focus
       intro w'
       go_simp
       with_reducible rfl
       )
       rotate_left
       (focus
       simp only [Act.put, List.setIfInBounds_toArray, List.set_cons_zero, List.set_cons_succ, i64_w, i32_w]
       rfl
       )
       refine take_ (i := 15) (N := some 115) (v := ?_) (a' := ?_) #[true, true, true, true, true, true, true, true, true, true, true, true, true, true, true, true, true, false, true, true, true, false, false, false] rfl rfl (take_ofW HT_.out HW_.out (by kernel_rfl)) (fun _ _ _ h => h) (Or.inl ⟨by rfl, ?_⟩) hHeld ?_ ?_
       rotate_left
       (focus
       rintro w' ⟨s0, s1, s2, s3, s4⟩
       go_simp
       with_reducible rfl
       )
       rotate_left
       (focus
       simp only [Act.put, List.setIfInBounds_toArray, List.set_cons_zero, List.set_cons_succ, i64_w, i32_w]
       rfl
       )
       refine take_ (i := 21) (N := some 121) (v := ?_) (a' := ?_) #[true, true, true, true, true, true, true, true, true, true, true, true, true, true, true, true, true, false, true, true, true, true, false, false] rfl rfl (take_ofW HT_.out HW_.out (by kernel_rfl)) (fun _ _ _ h => h) (Or.inl ⟨by rfl, ?_⟩) hHeld ?_ ?_
       rotate_left
       (focus
       rintro w' ⟨s0, s1, s2, s3, s4⟩
       go_simp
       with_reducible rfl
       )
       rotate_left
       (focus
       simp only [Act.put, List.setIfInBounds_toArray, List.set_cons_zero, List.set_cons_succ, i64_w, i32_w]
       rfl
       )
       refine one_ (i := 17) (N := some 117) #[true, true, true, true, true, true, true, true, true, true, true, true, true, true, true, true, true, true, true, true, true, true, false, false] rfl rfl (one_of HT_.out (by kernel_rfl)) (by decide) (fun K hK => ?_)
       refine goes_ Try.func21 (by kernel_rfl) rfl #[.agg #[.int .i64 a0_0, .int .i64 a0_1, .slice A0_2 l0_2.length c0_2, .slice A0_3 l0_3.length c0_3], .int .i64 x97_3] (by rfl) rfl rfl (by (try simp only [List.map_toArray, List.map_cons, List.map_nil]); first | done | rfl | (simp only [List.length_drop, List.length_take]; rfl)) ?_
       with_reducible refine (dfa_Count.calls k3 a0_0 a0_1 _ _ l0_2 _ _ l0_3 x97_3 t237 _ ?side1 ?side2 ?side3 ?side4 A73.out).mono ?_
       (case side1 => repeat (first | exact (Kd.C_below HR0_2.out HB.out) | (with_reducible refine Kd.C_alloc ?_ _) | (with_reducible refine Kd.C_drewN ?_ _) | (with_reducible refine Kd.C_drew ?_)))
       (case side2 => exact HC0_2.out)
       (case side3 => repeat (first | exact (Kd.C_below HR0_3.out HB.out) | (with_reducible refine Kd.C_alloc ?_ _) | (with_reducible refine Kd.C_drewN ?_ _) | (with_reducible refine Kd.C_drew ?_)))
       (case side4 => exact HC0_3.out)
       rintro e w80 ⟨rfl, hb⟩
       have HS4_ := (hb.cell (World.block_lt_of_cell? _ _ (hHeld.2.2.2.2))).trans (hHeld.2.2.2.2)
       refine ⟨_, rfl, ?_⟩
       have n0_ := Aside0.mk (Kd.R_below (uR HO_5.out) hb)
       have n1_ := Aside0.mk (Kd.R_below (uR HO_7.out) hb)
       have n2_ := Aside0.mk (blk_below (g := gb216) (o := .cells #[.int .i64 a0_0, .int .i64 a0_1, .slice A0_2 l0_2.length c0_2, .slice A0_3 l0_3.length c0_3] 25 (0, 0)) (uB BK216.out) hb)
       have n3_ := Aside0.mk (below_step (by repeat (first | (with_reducible first | exact HB.out | apply below_alloc | apply pw_below_drewN | apply below_drew1 | refine below_set ?_ GE216.out) | exact HB.out)) hb)
       clear HO_5
       clear HO_7
       clear BK216
       clear HB
       have HO_5 := n0_
       have HO_7 := n1_
       have BK216 := n2_
       have HB := n3_
       clear n0_ n1_ n2_ n3_
       (try clear hb)
       (try clear hb2)
       (try clear hk)
       (try clear hi)
       refine hK.out _ _ ⟨(blk_cell BK216.out 0).trans rfl, (blk_cell BK216.out 1).trans rfl, (blk_cell BK216.out 2).trans rfl, (blk_cell BK216.out 3).trans rfl, HS4_⟩ (fun hHeld => ?_)
       clear hK K
       refine norm_ (a' := ?_) ?_ ?_
       rotate_left
       (focus
       show Act.put _ (some 117) _ = _
       simp only [Act.put, List.setIfInBounds_toArray, List.set_cons_zero, List.set_cons_succ, i64_w, i32_w]
       rfl
       )
       refine pure_ (i := 22) (N := some 122) (v := ?_) (a' := ?_) #[true, true, true, true, true, true, true, true, true, true, true, true, true, true, true, true, true, true, true, true, true, true, true, false] rfl rfl (any_of HT_.out (by kernel_rfl)) (fun _ _ _ h => h) (Or.inl ⟨by rfl, ?_⟩) ?_ ?_
       rotate_left
       (focus
       intro w'
       go_simp
       with_reducible rfl
       )
       rotate_left
       (focus
       simp only [Act.put, List.setIfInBounds_toArray, List.set_cons_zero, List.set_cons_succ, i64_w, i32_w]
       rfl
       )
       refine pure_ (i := 23) (N := some 123) (v := ?_) (a' := ?_) #[true, true, true, true, true, true, true, true, true, true, true, true, true, true, true, true, true, true, true, true, true, true, true, true] rfl rfl (any_of HT_.out (by kernel_rfl)) (fun _ _ _ h => h) (Or.inl ⟨by rfl, ?_⟩) ?_ ?_
       rotate_left
       (focus
       intro w'
       go_simp
       with_reducible rfl
       )
       rotate_left
       (focus
       simp only [Act.put, List.setIfInBounds_toArray, List.set_cons_zero, List.set_cons_succ, i64_w, i32_w]
       rfl
       )
       refine done_ (done_of HT_.out (by kernel_rfl)) ?_
       try go_wp2
       go_ret
       exact ⟨by first | rfl | (simp [errW_none, errW_some] <;> rfl) | (simp [*, errW_none, errW_some] <;> rfl), by repeat (first | (with_reducible first | exact HB.out | apply below_alloc | apply pw_below_drewN | apply below_drew1 | refine below_set ?_ GE216.out) | exact HB.out)⟩
       )
       )
       (focus
       rw [if_neg c75] at H
       exact absurd H (by simp)
       )
       )
       (focus
       rw [if_neg c74] at H
       exact absurd H (by simp)
       )
       )
       (focus
       rw [if_neg c72] at H
       have c72b0 : decide ((t219.length : Int) < 40) = false := decide_eq_false c72
       have c72b1 : decide (t219.length < 40) = false := decide_eq_false (by omega)
       clear c72
       obtain ⟨ji81, hji81⟩ : ∃ j_ : Int, (wrap64 ((t219.length : Int) - 1)) = j_ := ⟨_, rfl⟩
       replace H : (if 0 ≤ (ji81) then (if (ji81) < (t219.length : Int) then (if ((rdOf ByteArray.empty t219 (ji81)).size : Int) > x97_3 then ((dfa_Count.f k3 a0_0 a0_1 l0_2 l0_3 x97_3).bind fun t240 => (if 0 ≤ x97_3 then (if x97_3 < (x7_1.length : Int) then (if t240 = (rd x7_1 x97_3) then (semigrouplaw07_DfaEnumerates.l1 k3 t219 x7_1 (x7_1.length : Int) (wrap64 (x97_3 + 1)) a0_0 a0_1 l0_2 l0_3) else (some false)) else (none)) else (none))) else (semigrouplaw07_DfaEnumerates.l1 k3 t219 x7_1 (x7_1.length : Int) (wrap64 (x97_3 + 1)) a0_0 a0_1 l0_2 l0_3)) else (none)) else (none)) = some r := by first | (rw [hji81] at H; exact H) | (simp only [hji81] at H ⊢; exact H)
       have hji81w : (IntKind.i64.wrap ((t219.length : Int) - 1)) = ji81 := (i64_w _).trans hji81
       by_cases c82 : 0 ≤ (ji81)
       (focus
       rw [if_pos c82] at H
       have c82b0 : decide (0 ≤ (ji81)) = true := decide_eq_true c82
       clear c82
       by_cases c83 : (ji81) < (t219.length : Int)
       (focus
       rw [if_pos c83] at H
       have c83b0 : decide ((ji81) < (t219.length : Int)) = true := decide_eq_true c83
       clear c83
       by_cases c84 : ((rdOf ByteArray.empty t219 (ji81)).size : Int) > x97_3
       (focus
       rw [if_pos c84] at H
       have c84b0 : decide (x97_3 < ((rdOf ByteArray.empty t219 (ji81)).size : Int)) = true := decide_eq_true c84
       clear c84
       replace H := Option.bind_eq_some_iff.mp H
       obtain ⟨t240, A850, H⟩ := H
       replace H : (if 0 ≤ x97_3 then (if x97_3 < (x7_1.length : Int) then (if t240 = (rd x7_1 x97_3) then (semigrouplaw07_DfaEnumerates.l1 k3 t219 x7_1 (x7_1.length : Int) (wrap64 (x97_3 + 1)) a0_0 a0_1 l0_2 l0_3) else (some false)) else (none)) else (none)) = some r := H
       have A85 := Aside0.mk A850
       clear A850
       by_cases c86 : 0 ≤ x97_3
       (focus
       rw [if_pos c86] at H
       have c86b0 : decide (0 ≤ x97_3) = true := decide_eq_true c86
       clear c86
       by_cases c87 : x97_3 < (x7_1.length : Int)
       (focus
       rw [if_pos c87] at H
       have c87b0 : decide (x97_3 < (x7_1.length : Int)) = true := decide_eq_true c87
       clear c87
       by_cases c88 : t240 = (rd x7_1 x97_3)
       (focus
       rw [if_pos c88] at H
       have c88b0 : (t240 == (rd x7_1 x97_3)) = true := beq_iff_eq.mpr c88
       have c88b1 : (t240 != (rd x7_1 x97_3)) = false := bne_eq_false_iff_eq.mpr c88
       clear c88
       have H' := Aside0.mk H
       clear H
       try go_wp2
       have n0_ := Aside0.mk (Kd.R_drew HO_5.out)
       have n1_ := Aside0.mk (Kd.R_drew HO_7.out)
       have n2_ := Aside0.mk (blk_drew BK216.out)
       have n3_ := Aside0.mk (below_drew1 HB.out)
       clear HO_5
       clear HO_7
       clear BK216
       clear HB
       have HO_5 := n0_
       have HO_7 := n1_
       have BK216 := n2_
       have HB := n3_
       clear n0_ n1_ n2_ n3_
       have p239 : 0 ≤ ((ji81) : Int) := of_decide_eq_true (by first | (with_reducible assumption) | assumption)
       have q239 : (ji81) < (t219.length : Int) := of_decide_eq_true (by first | (with_reducible assumption) | assumption)
       obtain ⟨ad239, e239, hx239_0⟩ := Kd.at_string (Kd.R_reads' HO_5.out).2.2 (ji81) p239 q239
       cases e239
       replace p239 := eq_true p239
       replace q239 := eq_true q239
       have p241 : 0 ≤ (x97_3 : Int) := of_decide_eq_true (by first | (with_reducible assumption) | assumption)
       have q241 : x97_3 < (x7_1.length : Int) := of_decide_eq_true (by first | (with_reducible assumption) | assumption)
       obtain ⟨ad241, e241, hx241_0⟩ := Kd.at_int (Kd.R_reads' HO_7.out).2.2 x97_3 p241 q241
       cases e241
       replace p241 := eq_true p241
       replace q241 := eq_true q241
       refine start_ (n := 24) (S := fun w' => w'.cell? ⟨gb216, 0, none⟩ = some (.int .i64 a0_0) ∧ w'.cell? ⟨gb216, 1, none⟩ = some (.int .i64 a0_1) ∧ w'.cell? ⟨gb216, 2, none⟩ = some (.slice A0_2 l0_2.length c0_2) ∧ w'.cell? ⟨gb216, 3, none⟩ = some (.slice A0_3 l0_3.length c0_3) ∧ w'.cell? (ad239.add ((ji81)).toNat) = some (.string (rdOf ByteArray.empty t219 (ji81))) ∧ w'.cell? (ad241.add (x97_3).toNat) = some (.int .i64 (rd x7_1 x97_3))) (ds := []) #[false, false, false, false, false, false, false, false, false, false, false, false, false, false, false, false, false, false, false, false, false, false, false, false] (by kernel_rfl) rfl rfl ⟨(blk_cell BK216.out 0).trans rfl, (blk_cell BK216.out 1).trans rfl, (blk_cell BK216.out 2).trans rfl, (blk_cell BK216.out 3).trans rfl, hx239_0, hx241_0⟩ (fun hHeld => ?_); refine with_tabW semigrouplaw07_DfaEnumerates.tab20 semigrouplaw07_DfaEnumerates.bits20 (fun HT_ HW_ => ?_)
       generalize wr.drew = w89 at HO_5 HO_7 BK216 HB hx239_0 hx241_0 hHeld ⊢
       refine pure_ (i := 0) (N := some 100) (v := ?_) (a' := ?_) #[true, false, false, false, false, false, false, false, false, false, false, false, false, false, false, false, false, false, false, false, false, false, false, false] rfl rfl (any_of HT_.out (by kernel_rfl)) (fun _ _ _ h => h) (Or.inl ⟨by rfl, ?_⟩) ?_ ?_
       rotate_left
       (focus
       intro w'
       go_simp
       with_reducible rfl
       )
       rotate_left
       (focus
       simp only [Act.put, List.setIfInBounds_toArray, List.set_cons_zero, List.set_cons_succ, i64_w, i32_w]
       rfl
       )
       refine pure_ (i := 1) (N := some 101) (v := ?_) (a' := ?_) #[true, true, false, false, false, false, false, false, false, false, false, false, false, false, false, false, false, false, false, false, false, false, false, false] rfl rfl (any_of HT_.out (by kernel_rfl)) (fun _ _ _ h => h) (Or.inl ⟨by rfl, ?_⟩) ?_ ?_
       rotate_left
       (focus
       intro w'
       go_simp
       with_reducible rfl
       )
       rotate_left
       (focus
       simp only [Act.put, List.setIfInBounds_toArray, List.set_cons_zero, List.set_cons_succ, i64_w, i32_w]
       rfl
       )
       refine pure_ (i := 2) (N := some 102) (v := ?_) (a' := ?_) #[true, true, true, false, false, false, false, false, false, false, false, false, false, false, false, false, false, false, false, false, false, false, false, false] rfl rfl (any_of HT_.out (by kernel_rfl)) (fun _ _ _ h => h) (Or.inl ⟨by rfl, ?_⟩) ?_ ?_
       rotate_left
       (focus
       intro w'
       go_simp
       with_reducible rfl
       )
       rotate_left
       (focus
       simp only [Act.put, List.setIfInBounds_toArray, List.set_cons_zero, List.set_cons_succ, i64_w, i32_w]
       rfl
       )
       refine pure_ (i := 3) (N := some 103) (v := ?_) (a' := ?_) #[true, true, true, true, false, false, false, false, false, false, false, false, false, false, false, false, false, false, false, false, false, false, false, false] rfl rfl (any_of HT_.out (by kernel_rfl)) (fun _ _ _ h => h) (Or.inl ⟨by rfl, ?_⟩) ?_ ?_
       rotate_left
       (focus
       intro w'
       go_simp
       with_reducible rfl
       )
       rotate_left
       (focus
       simp only [Act.put, List.setIfInBounds_toArray, List.set_cons_zero, List.set_cons_succ, i64_w, i32_w]
       rfl
       )
       refine pure_ (i := 4) (N := some 104) (v := ?_) (a' := ?_) #[true, true, true, true, true, false, false, false, false, false, false, false, false, false, false, false, false, false, false, false, false, false, false, false] rfl rfl (any_of HT_.out (by kernel_rfl)) (fun _ _ _ h => h) (Or.inl ⟨by rfl, ?_⟩) ?_ ?_
       rotate_left
       (focus
       intro w'
       go_simp
       with_reducible rfl
       )
       rotate_left
       (focus
       simp only [Act.put, List.setIfInBounds_toArray, List.set_cons_zero, List.set_cons_succ, i64_w, i32_w]
       rfl
       )
       refine pure_ (i := 5) (N := some 105) (v := ?_) (a' := ?_) #[true, true, true, true, true, true, false, false, false, false, false, false, false, false, false, false, false, false, false, false, false, false, false, false] rfl rfl (any_of HT_.out (by kernel_rfl)) (fun _ _ _ h => h) (Or.inl ⟨by rfl, ?_⟩) ?_ ?_
       rotate_left
       (focus
       intro w'
       go_simp
       with_reducible rfl
       )
       rotate_left
       (focus
       simp only [Act.put, List.setIfInBounds_toArray, List.set_cons_zero, List.set_cons_succ, i64_w, i32_w]
       rfl
       )
       refine pure_ (i := 6) (N := some 106) (v := ?_) (a' := ?_) #[true, true, true, true, true, true, true, false, false, false, false, false, false, false, false, false, false, false, false, false, false, false, false, false] rfl rfl (any_of HT_.out (by kernel_rfl)) (fun _ _ _ h => h) (Or.inl ⟨by rfl, ?_⟩) ?_ ?_
       rotate_left
       (focus
       intro w'
       go_simp
       with_reducible rfl
       )
       rotate_left
       (focus
       simp only [Act.put, List.setIfInBounds_toArray, List.set_cons_zero, List.set_cons_succ, i64_w, i32_w]
       rfl
       )
       refine pure_ (i := 7) (N := some 107) (v := ?_) (a' := ?_) #[true, true, true, true, true, true, true, true, false, false, false, false, false, false, false, false, false, false, false, false, false, false, false, false] rfl rfl (any_of HT_.out (by kernel_rfl)) (fun _ _ _ h => h) (Or.inl ⟨by rfl, ?_⟩) ?_ ?_
       rotate_left
       (focus
       intro w'
       go_simp
       with_reducible rfl
       )
       rotate_left
       (focus
       simp only [Act.put, List.setIfInBounds_toArray, List.set_cons_zero, List.set_cons_succ, i64_w, i32_w]
       rfl
       )
       refine pure_ (i := 8) (N := some 108) (v := ?_) (a' := ?_) #[true, true, true, true, true, true, true, true, true, false, false, false, false, false, false, false, false, false, false, false, false, false, false, false] rfl rfl (any_of HT_.out (by kernel_rfl)) (fun _ _ _ h => h) (Or.inl ⟨by rfl, ?_⟩) ?_ ?_
       rotate_left
       (focus
       intro w'
       go_simp
       with_reducible rfl
       )
       rotate_left
       (focus
       simp only [Act.put, List.setIfInBounds_toArray, List.set_cons_zero, List.set_cons_succ, i64_w, i32_w]
       rfl
       )
       refine pure_ (i := 11) (N := some 111) (v := ?_) (a' := ?_) #[true, true, true, true, true, true, true, true, true, false, false, true, false, false, false, false, false, false, false, false, false, false, false, false] rfl rfl (any_of HT_.out (by kernel_rfl)) (fun _ _ _ h => h) (Or.inl ⟨by rfl, ?_⟩) ?_ ?_
       rotate_left
       (focus
       intro w'
       go_simp
       with_reducible rfl
       )
       rotate_left
       (focus
       simp only [Act.put, List.setIfInBounds_toArray, List.set_cons_zero, List.set_cons_succ, i64_w, i32_w]
       rfl
       )
       refine take_ (i := 9) (N := some 109) (v := ?_) (a' := ?_) #[true, true, true, true, true, true, true, true, true, true, false, true, false, false, false, false, false, false, false, false, false, false, false, false] rfl rfl (take_ofW HT_.out HW_.out (by kernel_rfl)) (fun _ _ _ h => h) (Or.inl ⟨by rfl, ?_⟩) hHeld ?_ ?_
       rotate_left
       (focus
       rintro w' ⟨s0, s1, s2, s3, s4, s5⟩
       go_simp
       with_reducible rfl
       )
       rotate_left
       (focus
       simp only [Act.put, List.setIfInBounds_toArray, List.set_cons_zero, List.set_cons_succ, i64_w, i32_w]
       rfl
       )
       refine pure_ (i := 10) (N := some 110) (v := ?_) (a' := ?_) #[true, true, true, true, true, true, true, true, true, true, true, true, false, false, false, false, false, false, false, false, false, false, false, false] rfl rfl (any_of HT_.out (by kernel_rfl)) (fun _ _ _ h => h) (Or.inl ⟨by rfl, ?_⟩) ?_ ?_
       rotate_left
       (focus
       intro w'
       go_simp
       with_reducible rfl
       )
       rotate_left
       (focus
       simp only [Act.put, List.setIfInBounds_toArray, List.set_cons_zero, List.set_cons_succ, i64_w, i32_w]
       rfl
       )
       refine pure_ (i := 12) (N := some 112) (v := ?_) (a' := ?_) #[true, true, true, true, true, true, true, true, true, true, true, true, true, false, false, false, false, false, false, false, false, false, false, false] rfl rfl (any_of HT_.out (by kernel_rfl)) (fun _ _ _ h => h) (Or.inl ⟨by rfl, ?_⟩) ?_ ?_
       rotate_left
       (focus
       intro w'
       go_simp
       with_reducible rfl
       )
       rotate_left
       (focus
       simp only [Act.put, List.setIfInBounds_toArray, List.set_cons_zero, List.set_cons_succ, i64_w, i32_w]
       rfl
       )
       refine pure_ (i := 13) (N := some 113) (v := ?_) (a' := ?_) #[true, true, true, true, true, true, true, true, true, true, true, true, true, true, false, false, false, false, false, false, false, false, false, false] rfl rfl (any_of HT_.out (by kernel_rfl)) (fun _ _ _ h => h) (Or.inl ⟨by rfl, ?_⟩) ?_ ?_
       rotate_left
       (focus
       intro w'
       go_simp
       with_reducible rfl
       )
       rotate_left
       (focus
       simp only [Act.put, List.setIfInBounds_toArray, List.set_cons_zero, List.set_cons_succ, i64_w, i32_w]
       rfl
       )
       refine pure_ (i := 14) (N := some 114) (v := ?_) (a' := ?_) #[true, true, true, true, true, true, true, true, true, true, true, true, true, true, true, false, false, false, false, false, false, false, false, false] rfl rfl (any_of HT_.out (by kernel_rfl)) (fun _ _ _ h => h) (Or.inl ⟨by rfl, ?_⟩) ?_ ?_
       rotate_left
       (focus
       intro w'
       go_simp
       with_reducible rfl
       )
       rotate_left
       (focus
       simp only [Act.put, List.setIfInBounds_toArray, List.set_cons_zero, List.set_cons_succ, i64_w, i32_w]
       rfl
       )
       refine pure_ (i := 16) (N := some 116) (v := ?_) (a' := ?_) #[true, true, true, true, true, true, true, true, true, true, true, true, true, true, true, false, true, false, false, false, false, false, false, false] rfl rfl (any_of HT_.out (by kernel_rfl)) (fun _ _ _ h => h) (Or.inl ⟨by rfl, ?_⟩) ?_ ?_
       rotate_left
       (focus
       intro w'
       go_simp
       with_reducible rfl
       )
       rotate_left
       (focus
       simp only [Act.put, List.setIfInBounds_toArray, List.set_cons_zero, List.set_cons_succ, i64_w, i32_w]
       rfl
       )
       refine pure_ (i := 18) (N := some 118) (v := ?_) (a' := ?_) #[true, true, true, true, true, true, true, true, true, true, true, true, true, true, true, false, true, false, true, false, false, false, false, false] rfl rfl (any_of HT_.out (by kernel_rfl)) (fun _ _ _ h => h) (Or.inl ⟨by rfl, ?_⟩) ?_ ?_
       rotate_left
       (focus
       intro w'
       go_simp
       with_reducible rfl
       )
       rotate_left
       (focus
       simp only [Act.put, List.setIfInBounds_toArray, List.set_cons_zero, List.set_cons_succ, i64_w, i32_w]
       rfl
       )
       refine pure_ (i := 19) (N := some 119) (v := ?_) (a' := ?_) #[true, true, true, true, true, true, true, true, true, true, true, true, true, true, true, false, true, false, true, true, false, false, false, false] rfl rfl (any_of HT_.out (by kernel_rfl)) (fun _ _ _ h => h) (Or.inl ⟨by rfl, ?_⟩) ?_ ?_
       rotate_left
       (focus
       intro w'
       go_simp
       with_reducible rfl
       )
       rotate_left
       (focus
       simp only [Act.put, List.setIfInBounds_toArray, List.set_cons_zero, List.set_cons_succ, i64_w, i32_w]
       rfl
       )
       refine pure_ (i := 20) (N := some 120) (v := ?_) (a' := ?_) #[true, true, true, true, true, true, true, true, true, true, true, true, true, true, true, false, true, false, true, true, true, false, false, false] rfl rfl (any_of HT_.out (by kernel_rfl)) (fun _ _ _ h => h) (Or.inl ⟨by rfl, ?_⟩) ?_ ?_
       rotate_left
       (focus
       intro w'
       go_simp
       with_reducible rfl
       )
       rotate_left
       (focus
       simp only [Act.put, List.setIfInBounds_toArray, List.set_cons_zero, List.set_cons_succ, i64_w, i32_w]
       rfl
       )
       refine take_ (i := 15) (N := some 115) (v := ?_) (a' := ?_) #[true, true, true, true, true, true, true, true, true, true, true, true, true, true, true, true, true, false, true, true, true, false, false, false] rfl rfl (take_ofW HT_.out HW_.out (by kernel_rfl)) (fun _ _ _ h => h) (Or.inl ⟨by rfl, ?_⟩) hHeld ?_ ?_
       rotate_left
       (focus
       rintro w' ⟨s0, s1, s2, s3, s4, s5⟩
       go_simp
       with_reducible rfl
       )
       rotate_left
       (focus
       simp only [Act.put, List.setIfInBounds_toArray, List.set_cons_zero, List.set_cons_succ, i64_w, i32_w]
       rfl
       )
       refine take_ (i := 21) (N := some 121) (v := ?_) (a' := ?_) #[true, true, true, true, true, true, true, true, true, true, true, true, true, true, true, true, true, false, true, true, true, true, false, false] rfl rfl (take_ofW HT_.out HW_.out (by kernel_rfl)) (fun _ _ _ h => h) (Or.inl ⟨by rfl, ?_⟩) hHeld ?_ ?_
       rotate_left
       (focus
       rintro w' ⟨s0, s1, s2, s3, s4, s5⟩
       go_simp
       with_reducible rfl
       )
       rotate_left
       (focus
       simp only [Act.put, List.setIfInBounds_toArray, List.set_cons_zero, List.set_cons_succ, i64_w, i32_w]
       rfl
       )
       refine one_ (i := 17) (N := some 117) #[true, true, true, true, true, true, true, true, true, true, true, true, true, true, true, true, true, true, true, true, true, true, false, false] rfl rfl (one_of HT_.out (by kernel_rfl)) (by decide) (fun K hK => ?_)
       refine goes_ Try.func21 (by kernel_rfl) rfl #[.agg #[.int .i64 a0_0, .int .i64 a0_1, .slice A0_2 l0_2.length c0_2, .slice A0_3 l0_3.length c0_3], .int .i64 x97_3] (by rfl) rfl rfl (by (try simp only [List.map_toArray, List.map_cons, List.map_nil]); first | done | rfl | (simp only [List.length_drop, List.length_take]; rfl)) ?_
       with_reducible refine (dfa_Count.calls k3 a0_0 a0_1 _ _ l0_2 _ _ l0_3 x97_3 t240 _ ?side1 ?side2 ?side3 ?side4 A85.out).mono ?_
       (case side1 => repeat (first | exact (Kd.C_below HR0_2.out HB.out) | (with_reducible refine Kd.C_alloc ?_ _) | (with_reducible refine Kd.C_drewN ?_ _) | (with_reducible refine Kd.C_drew ?_)))
       (case side2 => exact HC0_2.out)
       (case side3 => repeat (first | exact (Kd.C_below HR0_3.out HB.out) | (with_reducible refine Kd.C_alloc ?_ _) | (with_reducible refine Kd.C_drewN ?_ _) | (with_reducible refine Kd.C_drew ?_)))
       (case side4 => exact HC0_3.out)
       rintro e w90 ⟨rfl, hb⟩
       have HS4_ := (hb.cell (World.block_lt_of_cell? _ _ (hHeld.2.2.2.2.1))).trans (hHeld.2.2.2.2.1)
       have HS5_ := (hb.cell (World.block_lt_of_cell? _ _ (hHeld.2.2.2.2.2))).trans (hHeld.2.2.2.2.2)
       refine ⟨_, rfl, ?_⟩
       have n0_ := Aside0.mk (Kd.R_below (uR HO_5.out) hb)
       have n1_ := Aside0.mk (Kd.R_below (uR HO_7.out) hb)
       have n2_ := Aside0.mk (blk_below (g := gb216) (o := .cells #[.int .i64 a0_0, .int .i64 a0_1, .slice A0_2 l0_2.length c0_2, .slice A0_3 l0_3.length c0_3] 25 (0, 0)) (uB BK216.out) hb)
       have n3_ := Aside0.mk (below_step (by repeat (first | (with_reducible first | exact HB.out | apply below_alloc | apply pw_below_drewN | apply below_drew1 | refine below_set ?_ GE216.out) | exact HB.out)) hb)
       clear HO_5
       clear HO_7
       clear BK216
       clear HB
       have HO_5 := n0_
       have HO_7 := n1_
       have BK216 := n2_
       have HB := n3_
       clear n0_ n1_ n2_ n3_
       (try clear hb)
       (try clear hb2)
       (try clear hk)
       (try clear hi)
       refine hK.out _ _ ⟨(blk_cell BK216.out 0).trans rfl, (blk_cell BK216.out 1).trans rfl, (blk_cell BK216.out 2).trans rfl, (blk_cell BK216.out 3).trans rfl, HS4_, HS5_⟩ (fun hHeld => ?_)
       clear hK K
       refine norm_ (a' := ?_) ?_ ?_
       rotate_left
       (focus
       show Act.put _ (some 117) _ = _
       simp only [Act.put, List.setIfInBounds_toArray, List.set_cons_zero, List.set_cons_succ, i64_w, i32_w]
       rfl
       )
       refine pure_ (i := 22) (N := some 122) (v := ?_) (a' := ?_) #[true, true, true, true, true, true, true, true, true, true, true, true, true, true, true, true, true, true, true, true, true, true, true, false] rfl rfl (any_of HT_.out (by kernel_rfl)) (fun _ _ _ h => h) (Or.inl ⟨by rfl, ?_⟩) ?_ ?_
       rotate_left
       (focus
       intro w'
       go_simp
       with_reducible rfl
       )
       rotate_left
       (focus
       simp only [Act.put, List.setIfInBounds_toArray, List.set_cons_zero, List.set_cons_succ, i64_w, i32_w]
       rfl
       )
       refine pure_ (i := 23) (N := some 123) (v := ?_) (a' := ?_) #[true, true, true, true, true, true, true, true, true, true, true, true, true, true, true, true, true, true, true, true, true, true, true, true] rfl rfl (any_of HT_.out (by kernel_rfl)) (fun _ _ _ h => h) (Or.inl ⟨by rfl, ?_⟩) ?_ ?_
       rotate_left
       (focus
       intro w'
       go_simp
       with_reducible rfl
       )
       rotate_left
       (focus
       simp only [Act.put, List.setIfInBounds_toArray, List.set_cons_zero, List.set_cons_succ, i64_w, i32_w]
       rfl
       )
       refine done_ (done_of HT_.out (by kernel_rfl)) ?_
       try go_wp2
       go_roundg k3
       case measure => have := HK1.out; have := HJ47.out; have := HK3.out; omega
       case rel => exact ⟨(wrap64 (x97_3 + 1)), (by first | rfl | (simp; done) | (simp [*]; done)), H', ⟨by have := HK1.out; have := HJ47.out; have := HK3.out; omega⟩, ⟨by (with_reducible repeat (first | apply Kd.R_alloc | apply Kd.R_drewN | apply Kd.R_drew)); exact HO_5.out⟩, ⟨by (with_reducible repeat (first | apply Kd.R_alloc | apply Kd.R_drewN | apply Kd.R_drew)); exact HO_7.out⟩, ⟨by (with_reducible repeat (first | refine blk_drewN ?_ _ | refine blk_drew ?_ | refine blk_alloc ?_ _)); exact BK216.out⟩, ⟨by repeat (first | (with_reducible first | exact HB.out | apply below_alloc | apply pw_below_drewN | apply below_drew1 | refine below_set ?_ GE216.out) | exact HB.out)⟩⟩
       )
       (focus
       rw [if_neg c88] at H
       have c88b0 : (t240 == (rd x7_1 x97_3)) = false := beq_eq_false_iff_ne.mpr c88
       have c88b1 : (t240 != (rd x7_1 x97_3)) = true := bne_iff_ne.mpr c88
       obtain rfl := Option.some.inj H
       try go_wp2
       have n0_ := Aside0.mk (Kd.R_drew HO_5.out)
       have n1_ := Aside0.mk (Kd.R_drew HO_7.out)
       have n2_ := Aside0.mk (blk_drew BK216.out)
       have n3_ := Aside0.mk (below_drew1 HB.out)
       clear HO_5
       clear HO_7
       clear BK216
       clear HB
       have HO_5 := n0_
       have HO_7 := n1_
       have BK216 := n2_
       have HB := n3_
       clear n0_ n1_ n2_ n3_
       have p239 : 0 ≤ ((ji81) : Int) := of_decide_eq_true (by first | (with_reducible assumption) | assumption)
       have q239 : (ji81) < (t219.length : Int) := of_decide_eq_true (by first | (with_reducible assumption) | assumption)
       obtain ⟨ad239, e239, hx239_0⟩ := Kd.at_string (Kd.R_reads' HO_5.out).2.2 (ji81) p239 q239
       cases e239
       replace p239 := eq_true p239
       replace q239 := eq_true q239
       have p241 : 0 ≤ (x97_3 : Int) := of_decide_eq_true (by first | (with_reducible assumption) | assumption)
       have q241 : x97_3 < (x7_1.length : Int) := of_decide_eq_true (by first | (with_reducible assumption) | assumption)
       obtain ⟨ad241, e241, hx241_0⟩ := Kd.at_int (Kd.R_reads' HO_7.out).2.2 x97_3 p241 q241
       cases e241
       replace p241 := eq_true p241
       replace q241 := eq_true q241
       refine start_ (n := 24) (S := fun w' => w'.cell? ⟨gb216, 0, none⟩ = some (.int .i64 a0_0) ∧ w'.cell? ⟨gb216, 1, none⟩ = some (.int .i64 a0_1) ∧ w'.cell? ⟨gb216, 2, none⟩ = some (.slice A0_2 l0_2.length c0_2) ∧ w'.cell? ⟨gb216, 3, none⟩ = some (.slice A0_3 l0_3.length c0_3) ∧ w'.cell? (ad239.add ((ji81)).toNat) = some (.string (rdOf ByteArray.empty t219 (ji81))) ∧ w'.cell? (ad241.add (x97_3).toNat) = some (.int .i64 (rd x7_1 x97_3))) (ds := []) #[false, false, false, false, false, false, false, false, false, false, false, false, false, false, false, false, false, false, false, false, false, false, false, false] (by kernel_rfl) rfl rfl ⟨(blk_cell BK216.out 0).trans rfl, (blk_cell BK216.out 1).trans rfl, (blk_cell BK216.out 2).trans rfl, (blk_cell BK216.out 3).trans rfl, hx239_0, hx241_0⟩ (fun hHeld => ?_); refine with_tabW semigrouplaw07_DfaEnumerates.tab20 semigrouplaw07_DfaEnumerates.bits20 (fun HT_ HW_ => ?_)
       generalize wr.drew = w91 at HO_5 HO_7 BK216 HB hx239_0 hx241_0 hHeld ⊢
       refine pure_ (i := 0) (N := some 100) (v := ?_) (a' := ?_) #[true, false, false, false, false, false, false, false, false, false, false, false, false, false, false, false, false, false, false, false, false, false, false, false] rfl rfl (any_of HT_.out (by kernel_rfl)) (fun _ _ _ h => h) (Or.inl ⟨by rfl, ?_⟩) ?_ ?_
       rotate_left
       (focus
       intro w'
       go_simp
       with_reducible rfl
       )
       rotate_left
       (focus
       simp only [Act.put, List.setIfInBounds_toArray, List.set_cons_zero, List.set_cons_succ, i64_w, i32_w]
       rfl
       )
       refine pure_ (i := 1) (N := some 101) (v := ?_) (a' := ?_) #[true, true, false, false, false, false, false, false, false, false, false, false, false, false, false, false, false, false, false, false, false, false, false, false] rfl rfl (any_of HT_.out (by kernel_rfl)) (fun _ _ _ h => h) (Or.inl ⟨by rfl, ?_⟩) ?_ ?_
       rotate_left
       (focus
       intro w'
       go_simp
       with_reducible rfl
       )
       rotate_left
       (focus
       simp only [Act.put, List.setIfInBounds_toArray, List.set_cons_zero, List.set_cons_succ, i64_w, i32_w]
       rfl
       )
       refine pure_ (i := 2) (N := some 102) (v := ?_) (a' := ?_) #[true, true, true, false, false, false, false, false, false, false, false, false, false, false, false, false, false, false, false, false, false, false, false, false] rfl rfl (any_of HT_.out (by kernel_rfl)) (fun _ _ _ h => h) (Or.inl ⟨by rfl, ?_⟩) ?_ ?_
       rotate_left
       (focus
       intro w'
       go_simp
       with_reducible rfl
       )
       rotate_left
       (focus
       simp only [Act.put, List.setIfInBounds_toArray, List.set_cons_zero, List.set_cons_succ, i64_w, i32_w]
       rfl
       )
       refine pure_ (i := 3) (N := some 103) (v := ?_) (a' := ?_) #[true, true, true, true, false, false, false, false, false, false, false, false, false, false, false, false, false, false, false, false, false, false, false, false] rfl rfl (any_of HT_.out (by kernel_rfl)) (fun _ _ _ h => h) (Or.inl ⟨by rfl, ?_⟩) ?_ ?_
       rotate_left
       (focus
       intro w'
       go_simp
       with_reducible rfl
       )
       rotate_left
       (focus
       simp only [Act.put, List.setIfInBounds_toArray, List.set_cons_zero, List.set_cons_succ, i64_w, i32_w]
       rfl
       )
       refine pure_ (i := 4) (N := some 104) (v := ?_) (a' := ?_) #[true, true, true, true, true, false, false, false, false, false, false, false, false, false, false, false, false, false, false, false, false, false, false, false] rfl rfl (any_of HT_.out (by kernel_rfl)) (fun _ _ _ h => h) (Or.inl ⟨by rfl, ?_⟩) ?_ ?_
       rotate_left
       (focus
       intro w'
       go_simp
       with_reducible rfl
       )
       rotate_left
       (focus
       simp only [Act.put, List.setIfInBounds_toArray, List.set_cons_zero, List.set_cons_succ, i64_w, i32_w]
       rfl
       )
       refine pure_ (i := 5) (N := some 105) (v := ?_) (a' := ?_) #[true, true, true, true, true, true, false, false, false, false, false, false, false, false, false, false, false, false, false, false, false, false, false, false] rfl rfl (any_of HT_.out (by kernel_rfl)) (fun _ _ _ h => h) (Or.inl ⟨by rfl, ?_⟩) ?_ ?_
       rotate_left
       (focus
       intro w'
       go_simp
       with_reducible rfl
       )
       rotate_left
       (focus
       simp only [Act.put, List.setIfInBounds_toArray, List.set_cons_zero, List.set_cons_succ, i64_w, i32_w]
       rfl
       )
       refine pure_ (i := 6) (N := some 106) (v := ?_) (a' := ?_) #[true, true, true, true, true, true, true, false, false, false, false, false, false, false, false, false, false, false, false, false, false, false, false, false] rfl rfl (any_of HT_.out (by kernel_rfl)) (fun _ _ _ h => h) (Or.inl ⟨by rfl, ?_⟩) ?_ ?_
       rotate_left
       (focus
       intro w'
       go_simp
       with_reducible rfl
       )
       rotate_left
       (focus
       simp only [Act.put, List.setIfInBounds_toArray, List.set_cons_zero, List.set_cons_succ, i64_w, i32_w]
       rfl
       )
       refine pure_ (i := 7) (N := some 107) (v := ?_) (a' := ?_) #[true, true, true, true, true, true, true, true, false, false, false, false, false, false, false, false, false, false, false, false, false, false, false, false] rfl rfl (any_of HT_.out (by kernel_rfl)) (fun _ _ _ h => h) (Or.inl ⟨by rfl, ?_⟩) ?_ ?_
       rotate_left
       (focus
       intro w'
       go_simp
       with_reducible rfl
       )
       rotate_left
       (focus
       simp only [Act.put, List.setIfInBounds_toArray, List.set_cons_zero, List.set_cons_succ, i64_w, i32_w]
       rfl
       )
       refine pure_ (i := 8) (N := some 108) (v := ?_) (a' := ?_) #[true, true, true, true, true, true, true, true, true, false, false, false, false, false, false, false, false, false, false, false, false, false, false, false] rfl rfl (any_of HT_.out (by kernel_rfl)) (fun _ _ _ h => h) (Or.inl ⟨by rfl, ?_⟩) ?_ ?_
       rotate_left
       (focus
       intro w'
       go_simp
       with_reducible rfl
       )
       rotate_left
       (focus
       simp only [Act.put, List.setIfInBounds_toArray, List.set_cons_zero, List.set_cons_succ, i64_w, i32_w]
       rfl
       )
       refine pure_ (i := 11) (N := some 111) (v := ?_) (a' := ?_) #[true, true, true, true, true, true, true, true, true, false, false, true, false, false, false, false, false, false, false, false, false, false, false, false] rfl rfl (any_of HT_.out (by kernel_rfl)) (fun _ _ _ h => h) (Or.inl ⟨by rfl, ?_⟩) ?_ ?_
       rotate_left
       (focus
       intro w'
       go_simp
       with_reducible rfl
       )
       rotate_left
       (focus
       simp only [Act.put, List.setIfInBounds_toArray, List.set_cons_zero, List.set_cons_succ, i64_w, i32_w]
       rfl
       )
       refine take_ (i := 9) (N := some 109) (v := ?_) (a' := ?_) #[true, true, true, true, true, true, true, true, true, true, false, true, false, false, false, false, false, false, false, false, false, false, false, false] rfl rfl (take_ofW HT_.out HW_.out (by kernel_rfl)) (fun _ _ _ h => h) (Or.inl ⟨by rfl, ?_⟩) hHeld ?_ ?_
       rotate_left
       (focus
       rintro w' ⟨s0, s1, s2, s3, s4, s5⟩
       go_simp
       with_reducible rfl
       )
       rotate_left
       (focus
       simp only [Act.put, List.setIfInBounds_toArray, List.set_cons_zero, List.set_cons_succ, i64_w, i32_w]
       rfl
       )
       refine pure_ (i := 10) (N := some 110) (v := ?_) (a' := ?_) #[true, true, true, true, true, true, true, true, true, true, true, true, false, false, false, false, false, false, false, false, false, false, false, false] rfl rfl (any_of HT_.out (by kernel_rfl)) (fun _ _ _ h => h) (Or.inl ⟨by rfl, ?_⟩) ?_ ?_
       rotate_left
       (focus
       intro w'
       go_simp
       with_reducible rfl
       )
       rotate_left
       (focus
       simp only [Act.put, List.setIfInBounds_toArray, List.set_cons_zero, List.set_cons_succ, i64_w, i32_w]
       rfl
       )
       refine pure_ (i := 12) (N := some 112) (v := ?_) (a' := ?_) #[true, true, true, true, true, true, true, true, true, true, true, true, true, false, false, false, false, false, false, false, false, false, false, false] rfl rfl (any_of HT_.out (by kernel_rfl)) (fun _ _ _ h => h) (Or.inl ⟨by rfl, ?_⟩) ?_ ?_
       rotate_left
       (focus
       intro w'
       go_simp
       with_reducible rfl
       )
       rotate_left
       (focus
       simp only [Act.put, List.setIfInBounds_toArray, List.set_cons_zero, List.set_cons_succ, i64_w, i32_w]
       rfl
       )
       refine pure_ (i := 13) (N := some 113) (v := ?_) (a' := ?_) #[true, true, true, true, true, true, true, true, true, true, true, true, true, true, false, false, false, false, false, false, false, false, false, false] rfl rfl (any_of HT_.out (by kernel_rfl)) (fun _ _ _ h => h) (Or.inl ⟨by rfl, ?_⟩) ?_ ?_
       rotate_left
       (focus
       intro w'
       go_simp
       with_reducible rfl
       )
       rotate_left
       (focus
       simp only [Act.put, List.setIfInBounds_toArray, List.set_cons_zero, List.set_cons_succ, i64_w, i32_w]
       rfl
       )
       refine pure_ (i := 14) (N := some 114) (v := ?_) (a' := ?_) #[true, true, true, true, true, true, true, true, true, true, true, true, true, true, true, false, false, false, false, false, false, false, false, false] rfl rfl (any_of HT_.out (by kernel_rfl)) (fun _ _ _ h => h) (Or.inl ⟨by rfl, ?_⟩) ?_ ?_
       rotate_left
       (focus
       intro w'
       go_simp
       with_reducible rfl
       )
       rotate_left
       (focus
       simp only [Act.put, List.setIfInBounds_toArray, List.set_cons_zero, List.set_cons_succ, i64_w, i32_w]
       rfl
       )
       refine pure_ (i := 16) (N := some 116) (v := ?_) (a' := ?_) #[true, true, true, true, true, true, true, true, true, true, true, true, true, true, true, false, true, false, false, false, false, false, false, false] rfl rfl (any_of HT_.out (by kernel_rfl)) (fun _ _ _ h => h) (Or.inl ⟨by rfl, ?_⟩) ?_ ?_
       rotate_left
       (focus
       intro w'
       go_simp
       with_reducible rfl
       )
       rotate_left
       (focus
       simp only [Act.put, List.setIfInBounds_toArray, List.set_cons_zero, List.set_cons_succ, i64_w, i32_w]
       rfl
       )
       refine pure_ (i := 18) (N := some 118) (v := ?_) (a' := ?_) #[true, true, true, true, true, true, true, true, true, true, true, true, true, true, true, false, true, false, true, false, false, false, false, false] rfl rfl (any_of HT_.out (by kernel_rfl)) (fun _ _ _ h => h) (Or.inl ⟨by rfl, ?_⟩) ?_ ?_
       rotate_left
       (focus
       intro w'
       go_simp
       with_reducible rfl
       )
       rotate_left
       (focus
       simp only [Act.put, List.setIfInBounds_toArray, List.set_cons_zero, List.set_cons_succ, i64_w, i32_w]
       rfl
       )
       refine pure_ (i := 19) (N := some 119) (v := ?_) (a' := ?_) #[true, true, true, true, true, true, true, true, true, true, true, true, true, true, true, false, true, false, true, true, false, false, false, false] rfl rfl (any_of HT_.out (by kernel_rfl)) (fun _ _ _ h => h) (Or.inl ⟨by rfl, ?_⟩) ?_ ?_
       rotate_left
       (focus
       intro w'
       go_simp
       with_reducible rfl
       )
       rotate_left
       (focus
       simp only [Act.put, List.setIfInBounds_toArray, List.set_cons_zero, List.set_cons_succ, i64_w, i32_w]
       rfl
       )
       refine pure_ (i := 20) (N := some 120) (v := ?_) (a' := ?_) #[true, true, true, true, true, true, true, true, true, true, true, true, true, true, true, false, true, false, true, true, true, false, false, false] rfl rfl (any_of HT_.out (by kernel_rfl)) (fun _ _ _ h => h) (Or.inl ⟨by rfl, ?_⟩) ?_ ?_
       rotate_left
       (focus
       intro w'
       go_simp
       with_reducible rfl
       )
       rotate_left
       (focus
       simp only [Act.put, List.setIfInBounds_toArray, List.set_cons_zero, List.set_cons_succ, i64_w, i32_w]
       rfl
       )
       refine take_ (i := 15) (N := some 115) (v := ?_) (a' := ?_) #[true, true, true, true, true, true, true, true, true, true, true, true, true, true, true, true, true, false, true, true, true, false, false, false] rfl rfl (take_ofW HT_.out HW_.out (by kernel_rfl)) (fun _ _ _ h => h) (Or.inl ⟨by rfl, ?_⟩) hHeld ?_ ?_
       rotate_left
       (focus
       rintro w' ⟨s0, s1, s2, s3, s4, s5⟩
       go_simp
       with_reducible rfl
       )
       rotate_left
       (focus
       simp only [Act.put, List.setIfInBounds_toArray, List.set_cons_zero, List.set_cons_succ, i64_w, i32_w]
       rfl
       )
       refine take_ (i := 21) (N := some 121) (v := ?_) (a' := ?_) #[true, true, true, true, true, true, true, true, true, true, true, true, true, true, true, true, true, false, true, true, true, true, false, false] rfl rfl (take_ofW HT_.out HW_.out (by kernel_rfl)) (fun _ _ _ h => h) (Or.inl ⟨by rfl, ?_⟩) hHeld ?_ ?_
       rotate_left
       (focus
       rintro w' ⟨s0, s1, s2, s3, s4, s5⟩
       go_simp
       with_reducible rfl
       )
       rotate_left
       (focus
       simp only [Act.put, List.setIfInBounds_toArray, List.set_cons_zero, List.set_cons_succ, i64_w, i32_w]
       rfl
       )
       refine one_ (i := 17) (N := some 117) #[true, true, true, true, true, true, true, true, true, true, true, true, true, true, true, true, true, true, true, true, true, true, false, false] rfl rfl (one_of HT_.out (by kernel_rfl)) (by decide) (fun K hK => ?_)
       refine goes_ Try.func21 (by kernel_rfl) rfl #[.agg #[.int .i64 a0_0, .int .i64 a0_1, .slice A0_2 l0_2.length c0_2, .slice A0_3 l0_3.length c0_3], .int .i64 x97_3] (by rfl) rfl rfl (by (try simp only [List.map_toArray, List.map_cons, List.map_nil]); first | done | rfl | (simp only [List.length_drop, List.length_take]; rfl)) ?_
       with_reducible refine (dfa_Count.calls k3 a0_0 a0_1 _ _ l0_2 _ _ l0_3 x97_3 t240 _ ?side1 ?side2 ?side3 ?side4 A85.out).mono ?_
       (case side1 => repeat (first | exact (Kd.C_below HR0_2.out HB.out) | (with_reducible refine Kd.C_alloc ?_ _) | (with_reducible refine Kd.C_drewN ?_ _) | (with_reducible refine Kd.C_drew ?_)))
       (case side2 => exact HC0_2.out)
       (case side3 => repeat (first | exact (Kd.C_below HR0_3.out HB.out) | (with_reducible refine Kd.C_alloc ?_ _) | (with_reducible refine Kd.C_drewN ?_ _) | (with_reducible refine Kd.C_drew ?_)))
       (case side4 => exact HC0_3.out)
       rintro e w92 ⟨rfl, hb⟩
       have HS4_ := (hb.cell (World.block_lt_of_cell? _ _ (hHeld.2.2.2.2.1))).trans (hHeld.2.2.2.2.1)
       have HS5_ := (hb.cell (World.block_lt_of_cell? _ _ (hHeld.2.2.2.2.2))).trans (hHeld.2.2.2.2.2)
       refine ⟨_, rfl, ?_⟩
       have n0_ := Aside0.mk (Kd.R_below (uR HO_5.out) hb)
       have n1_ := Aside0.mk (Kd.R_below (uR HO_7.out) hb)
       have n2_ := Aside0.mk (blk_below (g := gb216) (o := .cells #[.int .i64 a0_0, .int .i64 a0_1, .slice A0_2 l0_2.length c0_2, .slice A0_3 l0_3.length c0_3] 25 (0, 0)) (uB BK216.out) hb)
       have n3_ := Aside0.mk (below_step (by repeat (first | (with_reducible first | exact HB.out | apply below_alloc | apply pw_below_drewN | apply below_drew1 | refine below_set ?_ GE216.out) | exact HB.out)) hb)
       clear HO_5
       clear HO_7
       clear BK216
       clear HB
       have HO_5 := n0_
       have HO_7 := n1_
       have BK216 := n2_
       have HB := n3_
       clear n0_ n1_ n2_ n3_
       (try clear hb)
       (try clear hb2)
       (try clear hk)
       (try clear hi)
       refine hK.out _ _ ⟨(blk_cell BK216.out 0).trans rfl, (blk_cell BK216.out 1).trans rfl, (blk_cell BK216.out 2).trans rfl, (blk_cell BK216.out 3).trans rfl, HS4_, HS5_⟩ (fun hHeld => ?_)
       clear hK K
       refine norm_ (a' := ?_) ?_ ?_
       rotate_left
       (focus
       show Act.put _ (some 117) _ = _
       simp only [Act.put, List.setIfInBounds_toArray, List.set_cons_zero, List.set_cons_succ, i64_w, i32_w]
       rfl
       )
       refine pure_ (i := 22) (N := some 122) (v := ?_) (a' := ?_) #[true, true, true, true, true, true, true, true, true, true, true, true, true, true, true, true, true, true, true, true, true, true, true, false] rfl rfl (any_of HT_.out (by kernel_rfl)) (fun _ _ _ h => h) (Or.inl ⟨by rfl, ?_⟩) ?_ ?_
       rotate_left
       (focus
       intro w'
       go_simp
       with_reducible rfl
       )
       rotate_left
       (focus
       simp only [Act.put, List.setIfInBounds_toArray, List.set_cons_zero, List.set_cons_succ, i64_w, i32_w]
       rfl
       )
       refine pure_ (i := 23) (N := some 123) (v := ?_) (a' := ?_) #[true, true, true, true, true, true, true, true, true, true, true, true, true, true, true, true, true, true, true, true, true, true, true, true] rfl rfl (any_of HT_.out (by kernel_rfl)) (fun _ _ _ h => h) (Or.inl ⟨by rfl, ?_⟩) ?_ ?_
       rotate_left
       (focus
       intro w'
       go_simp
       with_reducible rfl
       )
       rotate_left
       (focus
       simp only [Act.put, List.setIfInBounds_toArray, List.set_cons_zero, List.set_cons_succ, i64_w, i32_w]
       rfl
       )
       refine done_ (done_of HT_.out (by kernel_rfl)) ?_
       try go_wp2
       go_ret
       exact ⟨by first | rfl | (simp [errW_none, errW_some] <;> rfl) | (simp only [← hji81]; first | rfl | (simp [errW_none, errW_some] <;> rfl)) | (simp [*, errW_none, errW_some] <;> rfl), by repeat (first | (with_reducible first | exact HB.out | apply below_alloc | apply pw_below_drewN | apply below_drew1 | refine below_set ?_ GE216.out) | exact HB.out)⟩
       )
       )
       (focus
       rw [if_neg c87] at H
       exact absurd H (by simp)
       )
       )
       (focus
       rw [if_neg c86] at H
       exact absurd H (by simp)
       )
       )
       (focus
       rw [if_neg c84] at H
       have c84b0 : decide (x97_3 < ((rdOf ByteArray.empty t219 (ji81)).size : Int)) = false := decide_eq_false c84
       clear c84
       have H' := Aside0.mk H
       clear H
       try go_wp2
       have n0_ := Aside0.mk (Kd.R_drew HO_5.out)
       have n1_ := Aside0.mk (Kd.R_drew HO_7.out)
       have n2_ := Aside0.mk (blk_drew BK216.out)
       have n3_ := Aside0.mk (below_drew1 HB.out)
       clear HO_5
       clear HO_7
       clear BK216
       clear HB
       have HO_5 := n0_
       have HO_7 := n1_
       have BK216 := n2_
       have HB := n3_
       clear n0_ n1_ n2_ n3_
       have p239 : 0 ≤ ((ji81) : Int) := of_decide_eq_true (by first | (with_reducible assumption) | assumption)
       have q239 : (ji81) < (t219.length : Int) := of_decide_eq_true (by first | (with_reducible assumption) | assumption)
       obtain ⟨ad239, e239, hx239_0⟩ := Kd.at_string (Kd.R_reads' HO_5.out).2.2 (ji81) p239 q239
       cases e239
       replace p239 := eq_true p239
       replace q239 := eq_true q239
       refine start_ (n := 24) (S := fun w' => w'.cell? (ad239.add ((ji81)).toNat) = some (.string (rdOf ByteArray.empty t219 (ji81)))) (ds := []) #[false, false, false, false, false, false, false, false, false, false, false, false, false, false, false, false, false, false, false, false, false, false, false, false] (by kernel_rfl) rfl rfl (hx239_0) (fun hHeld => ?_); refine with_tabW semigrouplaw07_DfaEnumerates.tab20 semigrouplaw07_DfaEnumerates.bits20 (fun HT_ HW_ => ?_)
       generalize wr.drew = w93 at HO_5 HO_7 BK216 HB hx239_0 hHeld ⊢
       refine pure_ (i := 0) (N := some 100) (v := ?_) (a' := ?_) #[true, false, false, false, false, false, false, false, false, false, false, false, false, false, false, false, false, false, false, false, false, false, false, false] rfl rfl (any_of HT_.out (by kernel_rfl)) (fun _ _ _ h => h) (Or.inl ⟨by rfl, ?_⟩) ?_ ?_
       rotate_left
       (focus
       intro w'
       go_simp
       with_reducible rfl
       )
       rotate_left
       (focus
       simp only [Act.put, List.setIfInBounds_toArray, List.set_cons_zero, List.set_cons_succ, i64_w, i32_w]
       rfl
       )
       refine pure_ (i := 1) (N := some 101) (v := ?_) (a' := ?_) #[true, true, false, false, false, false, false, false, false, false, false, false, false, false, false, false, false, false, false, false, false, false, false, false] rfl rfl (any_of HT_.out (by kernel_rfl)) (fun _ _ _ h => h) (Or.inl ⟨by rfl, ?_⟩) ?_ ?_
       rotate_left
       (focus
       intro w'
       go_simp
       with_reducible rfl
       )
       rotate_left
       (focus
       simp only [Act.put, List.setIfInBounds_toArray, List.set_cons_zero, List.set_cons_succ, i64_w, i32_w]
       rfl
       )
       refine pure_ (i := 2) (N := some 102) (v := ?_) (a' := ?_) #[true, true, true, false, false, false, false, false, false, false, false, false, false, false, false, false, false, false, false, false, false, false, false, false] rfl rfl (any_of HT_.out (by kernel_rfl)) (fun _ _ _ h => h) (Or.inl ⟨by rfl, ?_⟩) ?_ ?_
       rotate_left
       (focus
       intro w'
       go_simp
       with_reducible rfl
       )
       rotate_left
       (focus
       simp only [Act.put, List.setIfInBounds_toArray, List.set_cons_zero, List.set_cons_succ, i64_w, i32_w]
       rfl
       )
       refine pure_ (i := 3) (N := some 103) (v := ?_) (a' := ?_) #[true, true, true, true, false, false, false, false, false, false, false, false, false, false, false, false, false, false, false, false, false, false, false, false] rfl rfl (any_of HT_.out (by kernel_rfl)) (fun _ _ _ h => h) (Or.inl ⟨by rfl, ?_⟩) ?_ ?_
       rotate_left
       (focus
       intro w'
       go_simp
       with_reducible rfl
       )
       rotate_left
       (focus
       simp only [Act.put, List.setIfInBounds_toArray, List.set_cons_zero, List.set_cons_succ, i64_w, i32_w]
       rfl
       )
       refine pure_ (i := 4) (N := some 104) (v := ?_) (a' := ?_) #[true, true, true, true, true, false, false, false, false, false, false, false, false, false, false, false, false, false, false, false, false, false, false, false] rfl rfl (any_of HT_.out (by kernel_rfl)) (fun _ _ _ h => h) (Or.inl ⟨by rfl, ?_⟩) ?_ ?_
       rotate_left
       (focus
       intro w'
       go_simp
       with_reducible rfl
       )
       rotate_left
       (focus
       simp only [Act.put, List.setIfInBounds_toArray, List.set_cons_zero, List.set_cons_succ, i64_w, i32_w]
       rfl
       )
       refine pure_ (i := 5) (N := some 105) (v := ?_) (a' := ?_) #[true, true, true, true, true, true, false, false, false, false, false, false, false, false, false, false, false, false, false, false, false, false, false, false] rfl rfl (any_of HT_.out (by kernel_rfl)) (fun _ _ _ h => h) (Or.inl ⟨by rfl, ?_⟩) ?_ ?_
       rotate_left
       (focus
       intro w'
       go_simp
       with_reducible rfl
       )
       rotate_left
       (focus
       simp only [Act.put, List.setIfInBounds_toArray, List.set_cons_zero, List.set_cons_succ, i64_w, i32_w]
       rfl
       )
       refine pure_ (i := 6) (N := some 106) (v := ?_) (a' := ?_) #[true, true, true, true, true, true, true, false, false, false, false, false, false, false, false, false, false, false, false, false, false, false, false, false] rfl rfl (any_of HT_.out (by kernel_rfl)) (fun _ _ _ h => h) (Or.inl ⟨by rfl, ?_⟩) ?_ ?_
       rotate_left
       (focus
       intro w'
       go_simp
       with_reducible rfl
       )
       rotate_left
       (focus
       simp only [Act.put, List.setIfInBounds_toArray, List.set_cons_zero, List.set_cons_succ, i64_w, i32_w]
       rfl
       )
       refine pure_ (i := 7) (N := some 107) (v := ?_) (a' := ?_) #[true, true, true, true, true, true, true, true, false, false, false, false, false, false, false, false, false, false, false, false, false, false, false, false] rfl rfl (any_of HT_.out (by kernel_rfl)) (fun _ _ _ h => h) (Or.inl ⟨by rfl, ?_⟩) ?_ ?_
       rotate_left
       (focus
       intro w'
       go_simp
       with_reducible rfl
       )
       rotate_left
       (focus
       simp only [Act.put, List.setIfInBounds_toArray, List.set_cons_zero, List.set_cons_succ, i64_w, i32_w]
       rfl
       )
       refine pure_ (i := 8) (N := some 108) (v := ?_) (a' := ?_) #[true, true, true, true, true, true, true, true, true, false, false, false, false, false, false, false, false, false, false, false, false, false, false, false] rfl rfl (any_of HT_.out (by kernel_rfl)) (fun _ _ _ h => h) (Or.inl ⟨by rfl, ?_⟩) ?_ ?_
       rotate_left
       (focus
       intro w'
       go_simp
       with_reducible rfl
       )
       rotate_left
       (focus
       simp only [Act.put, List.setIfInBounds_toArray, List.set_cons_zero, List.set_cons_succ, i64_w, i32_w]
       rfl
       )
       refine pure_ (i := 11) (N := some 111) (v := ?_) (a' := ?_) #[true, true, true, true, true, true, true, true, true, false, false, true, false, false, false, false, false, false, false, false, false, false, false, false] rfl rfl (any_of HT_.out (by kernel_rfl)) (fun _ _ _ h => h) (Or.inl ⟨by rfl, ?_⟩) ?_ ?_
       rotate_left
       (focus
       intro w'
       go_simp
       with_reducible rfl
       )
       rotate_left
       (focus
       simp only [Act.put, List.setIfInBounds_toArray, List.set_cons_zero, List.set_cons_succ, i64_w, i32_w]
       rfl
       )
       refine take_ (i := 9) (N := some 109) (v := ?_) (a' := ?_) #[true, true, true, true, true, true, true, true, true, true, false, true, false, false, false, false, false, false, false, false, false, false, false, false] rfl rfl (take_ofW HT_.out HW_.out (by kernel_rfl)) (fun _ _ _ h => h) (Or.inl ⟨by rfl, ?_⟩) hHeld ?_ ?_
       rotate_left
       (focus
       intro w' s0
       go_simp
       with_reducible rfl
       )
       rotate_left
       (focus
       simp only [Act.put, List.setIfInBounds_toArray, List.set_cons_zero, List.set_cons_succ, i64_w, i32_w]
       rfl
       )
       refine pure_ (i := 10) (N := some 110) (v := ?_) (a' := ?_) #[true, true, true, true, true, true, true, true, true, true, true, true, false, false, false, false, false, false, false, false, false, false, false, false] rfl rfl (any_of HT_.out (by kernel_rfl)) (fun _ _ _ h => h) (Or.inl ⟨by rfl, ?_⟩) ?_ ?_
       rotate_left
       (focus
       intro w'
       go_simp
       with_reducible rfl
       )
       rotate_left
       (focus
       simp only [Act.put, List.setIfInBounds_toArray, List.set_cons_zero, List.set_cons_succ, i64_w, i32_w]
       rfl
       )
       refine pure_ (i := 12) (N := some 112) (v := ?_) (a' := ?_) #[true, true, true, true, true, true, true, true, true, true, true, true, true, false, false, false, false, false, false, false, false, false, false, false] rfl rfl (any_of HT_.out (by kernel_rfl)) (fun _ _ _ h => h) (Or.inl ⟨by rfl, ?_⟩) ?_ ?_
       rotate_left
       (focus
       intro w'
       go_simp
       with_reducible rfl
       )
       rotate_left
       (focus
       simp only [Act.put, List.setIfInBounds_toArray, List.set_cons_zero, List.set_cons_succ, i64_w, i32_w]
       rfl
       )
       refine pure_ (i := 13) (N := some 113) (v := ?_) (a' := ?_) #[true, true, true, true, true, true, true, true, true, true, true, true, true, true, false, false, false, false, false, false, false, false, false, false] rfl rfl (any_of HT_.out (by kernel_rfl)) (fun _ _ _ h => h) (Or.inl ⟨by rfl, ?_⟩) ?_ ?_
       rotate_left
       (focus
       intro w'
       go_simp
       with_reducible rfl
       )
       rotate_left
       (focus
       simp only [Act.put, List.setIfInBounds_toArray, List.set_cons_zero, List.set_cons_succ, i64_w, i32_w]
       rfl
       )
       refine pure_ (i := 14) (N := some 114) (v := ?_) (a' := ?_) #[true, true, true, true, true, true, true, true, true, true, true, true, true, true, true, false, false, false, false, false, false, false, false, false] rfl rfl (any_of HT_.out (by kernel_rfl)) (fun _ _ _ h => h) (Or.inl ⟨by rfl, ?_⟩) ?_ ?_
       rotate_left
       (focus
       intro w'
       go_simp
       with_reducible rfl
       )
       rotate_left
       (focus
       simp only [Act.put, List.setIfInBounds_toArray, List.set_cons_zero, List.set_cons_succ, i64_w, i32_w]
       rfl
       )
       refine pure_ (i := 15) (N := some 115) (v := undef) (a' := ?_) #[true, true, true, true, true, true, true, true, true, true, true, true, true, true, true, true, false, false, false, false, false, false, false, false] rfl rfl (any_of HT_.out (by kernel_rfl)) (fun _ _ _ h => h) (Or.inr ⟨by rfl, rfl⟩) ?_ ?_
       rotate_left
       (focus
       simp only [Act.put, List.setIfInBounds_toArray, List.set_cons_zero, List.set_cons_succ, i64_w, i32_w]
       rfl
       )
       refine pure_ (i := 16) (N := some 116) (v := undef) (a' := ?_) #[true, true, true, true, true, true, true, true, true, true, true, true, true, true, true, true, true, false, false, false, false, false, false, false] rfl rfl (any_of HT_.out (by kernel_rfl)) (fun _ _ _ h => h) (Or.inr ⟨by rfl, rfl⟩) ?_ ?_
       rotate_left
       (focus
       simp only [Act.put, List.setIfInBounds_toArray, List.set_cons_zero, List.set_cons_succ, i64_w, i32_w]
       rfl
       )
       refine pure_ (i := 17) (N := some 117) (v := undef) (a' := ?_) #[true, true, true, true, true, true, true, true, true, true, true, true, true, true, true, true, true, true, false, false, false, false, false, false] rfl rfl (any_of HT_.out (by kernel_rfl)) (fun _ _ _ h => h) (Or.inr ⟨by rfl, rfl⟩) ?_ ?_
       rotate_left
       (focus
       simp only [Act.put, List.setIfInBounds_toArray, List.set_cons_zero, List.set_cons_succ, i64_w, i32_w]
       rfl
       )
       refine pure_ (i := 18) (N := some 118) (v := undef) (a' := ?_) #[true, true, true, true, true, true, true, true, true, true, true, true, true, true, true, true, true, true, true, false, false, false, false, false] rfl rfl (any_of HT_.out (by kernel_rfl)) (fun _ _ _ h => h) (Or.inr ⟨by rfl, rfl⟩) ?_ ?_
       rotate_left
       (focus
       simp only [Act.put, List.setIfInBounds_toArray, List.set_cons_zero, List.set_cons_succ, i64_w, i32_w]
       rfl
       )
       refine pure_ (i := 19) (N := some 119) (v := undef) (a' := ?_) #[true, true, true, true, true, true, true, true, true, true, true, true, true, true, true, true, true, true, true, true, false, false, false, false] rfl rfl (any_of HT_.out (by kernel_rfl)) (fun _ _ _ h => h) (Or.inr ⟨by rfl, rfl⟩) ?_ ?_
       rotate_left
       (focus
       simp only [Act.put, List.setIfInBounds_toArray, List.set_cons_zero, List.set_cons_succ, i64_w, i32_w]
       rfl
       )
       refine pure_ (i := 20) (N := some 120) (v := undef) (a' := ?_) #[true, true, true, true, true, true, true, true, true, true, true, true, true, true, true, true, true, true, true, true, true, false, false, false] rfl rfl (any_of HT_.out (by kernel_rfl)) (fun _ _ _ h => h) (Or.inr ⟨by rfl, rfl⟩) ?_ ?_
       rotate_left
       (focus
       simp only [Act.put, List.setIfInBounds_toArray, List.set_cons_zero, List.set_cons_succ, i64_w, i32_w]
       rfl
       )
       refine pure_ (i := 21) (N := some 121) (v := undef) (a' := ?_) #[true, true, true, true, true, true, true, true, true, true, true, true, true, true, true, true, true, true, true, true, true, true, false, false] rfl rfl (any_of HT_.out (by kernel_rfl)) (fun _ _ _ h => h) (Or.inr ⟨by rfl, rfl⟩) ?_ ?_
       rotate_left
       (focus
       simp only [Act.put, List.setIfInBounds_toArray, List.set_cons_zero, List.set_cons_succ, i64_w, i32_w]
       rfl
       )
       refine pure_ (i := 22) (N := some 122) (v := undef) (a' := ?_) #[true, true, true, true, true, true, true, true, true, true, true, true, true, true, true, true, true, true, true, true, true, true, true, false] rfl rfl (any_of HT_.out (by kernel_rfl)) (fun _ _ _ h => h) (Or.inr ⟨by rfl, rfl⟩) ?_ ?_
       rotate_left
       (focus
       simp only [Act.put, List.setIfInBounds_toArray, List.set_cons_zero, List.set_cons_succ, i64_w, i32_w]
       rfl
       )
       refine pure_ (i := 23) (N := some 123) (v := ?_) (a' := ?_) #[true, true, true, true, true, true, true, true, true, true, true, true, true, true, true, true, true, true, true, true, true, true, true, true] rfl rfl (any_of HT_.out (by kernel_rfl)) (fun _ _ _ h => h) (Or.inl ⟨by rfl, ?_⟩) ?_ ?_
       rotate_left
       (focus
       intro w'
       go_simp
       with_reducible rfl
       )
       rotate_left
       (focus
       simp only [Act.put, List.setIfInBounds_toArray, List.set_cons_zero, List.set_cons_succ, i64_w, i32_w]
       rfl
       )
       refine done_ (done_of HT_.out (by kernel_rfl)) ?_
       try go_wp2
       go_roundg k3
       case measure => have := HK1.out; have := HJ47.out; have := HK3.out; omega
       case rel => exact ⟨(wrap64 (x97_3 + 1)), (by first | rfl | (simp; done) | (simp [*]; done)), H', ⟨by have := HK1.out; have := HJ47.out; have := HK3.out; omega⟩, ⟨by (with_reducible repeat (first | apply Kd.R_alloc | apply Kd.R_drewN | apply Kd.R_drew)); exact HO_5.out⟩, ⟨by (with_reducible repeat (first | apply Kd.R_alloc | apply Kd.R_drewN | apply Kd.R_drew)); exact HO_7.out⟩, ⟨by (with_reducible repeat (first | refine blk_drewN ?_ _ | refine blk_drew ?_ | refine blk_alloc ?_ _)); exact BK216.out⟩, ⟨by repeat (first | (with_reducible first | exact HB.out | apply below_alloc | apply pw_below_drewN | apply below_drew1 | refine below_set ?_ GE216.out) | exact HB.out)⟩⟩
       )
       )
       (focus
       rw [if_neg c83] at H
       exact absurd H (by simp)
       )
       )
       (focus
       rw [if_neg c82] at H
       exact absurd H (by simp)
       )
       )
       )
       (focus
       rw [if_neg c71] at H
       have c71b0 : decide (x97_3 < (x7_1.length : Int)) = false := decide_eq_false c71
       clear c71
       replace H := Option.bind_eq_some_iff.mp H
       obtain ⟨t236, A940, H⟩ := H
       replace H : (some t236) = some r := H
       have A94 := Aside0.mk A940
       clear A940
       obtain rfl := Option.some.inj H
       go_wp2_with (first | ((with_reducible refine gate_callee (f := 16) rfl ?_); refine goesL_ (some 125) rfl rfl Try.func16 (by kernel_rfl) rfl #[] rfl (by (try simp only [List.map_toArray, List.map_cons, List.map_nil]); first | done | rfl | (simp only [List.length_drop, List.length_take]; rfl)) ?_; (with_reducible refine (semigrouplaw07_awake.calls k3  t236 _ A94.out).mono ?_); rintro e w95 ⟨rfl, hb⟩; refine ⟨_, rfl, ?_⟩; have n0_ := Aside0.mk (Kd.R_below (uR HO_5.out) hb); have n1_ := Aside0.mk (Kd.R_below (uR HO_7.out) hb); have n2_ := Aside0.mk (blk_below (g := gb216) (o := .cells #[.int .i64 a0_0, .int .i64 a0_1, .slice A0_2 l0_2.length c0_2, .slice A0_3 l0_3.length c0_3] 25 (0, 0)) (uB BK216.out) hb); have n3_ := Aside0.mk (below_step (by repeat (first | (with_reducible first | exact HB.out | apply below_alloc | apply pw_below_drewN | apply below_drew1 | refine below_set ?_ GE216.out) | exact HB.out)) hb); clear HO_5; clear HO_7; clear BK216; clear HB; have HO_5 := n0_; have HO_7 := n1_; have BK216 := n2_; have HB := n3_; clear n0_ n1_ n2_ n3_; (try clear hb); (try clear hb2); (try clear hk); (try clear hi)))
       go_ret
       exact ⟨by first | rfl | (simp [errW_none, errW_some] <;> rfl) | (simp [*, errW_none, errW_some] <;> rfl), by repeat (first | (with_reducible first | exact HB.out | apply below_alloc | apply pw_below_drewN | apply below_drew1 | refine below_set ?_ GE216.out) | exact HB.out)⟩
       )
     )
   )
 )
 (focus
 rw [if_neg c6] at H
 exact absurd H (by simp)
 )
 )
 (focus
 replace c4 := Bool.eq_false_iff.mpr c4
 subst c4
 have H1 : ((semigrouplaw07_awake.f k).bind fun t218 => (some t218)) = some r := by rw [if_neg (show ¬ (false = true) by decide)] at H; exact H
 clear H
 have H := H1
 clear H1
 replace H := Option.bind_eq_some_iff.mp H
 obtain ⟨t218, A960, H⟩ := H
 replace H : (some t218) = some r := H
 have A96 := Aside0.mk A960
 clear A960
 obtain rfl := Option.some.inj H
 go_enter Try.func9, Try.ntmps9
 go_wp2_with (first | ((with_reducible refine gate_dst (N := 2) rfl ?_); (try (refine gate_guard (by rfl) ?_; dsimp only)); refine box_event ?hg (N := 2) ?hd (cs := #[.int .i64 a0_0, .int .i64 a0_1, .slice A0_2 l0_2.length c0_2, .slice A0_3 l0_3.length c0_3]) (t := 25) ?hr ?_; (case hd => rfl); (case hg => rfl); (case hr => first | (go_simp; done) | (go_simp; rfl)); intro gb216 hg w97 hbox hb; have n0_ := Aside0.mk (below_step (by repeat (first | (with_reducible first | exact HB.out | apply below_alloc | apply pw_below_drewN | apply below_drew1) | exact HB.out)) hb); have n1_ := Aside0.mk (hbox); have n2_ := Aside0.mk ((by rw [hg]; exact (below_size (by repeat (first | (with_reducible first | exact HB.out | apply below_alloc | apply pw_below_drewN | apply below_drew1) | exact HB.out))) : w.heap.size ≤ gb216)); have n3_ := Aside0.mk ((by rw [hg]; exact (below_size (by repeat (first | (with_reducible first | exact HB.out | apply below_alloc | apply pw_below_drewN | apply below_drew1) | exact HB.out))) : w.heap.size ≤ gb216)); clear HB; have HB := n0_; have BK216 := n1_; have GW216 := n2_; have GE216 := n3_; clear n0_ n1_ n2_ n3_; clear hb hbox hg; have hcz98_0 : w97.cell? ⟨gb216, 0, none⟩ = some (.int .i64 a0_0) := (blk_cell BK216.out 0).trans rfl; have hcz98_1 : w97.cell? ⟨gb216, 1, none⟩ = some (.int .i64 a0_1) := (blk_cell BK216.out 1).trans rfl; have hcz98_2 : w97.cell? ⟨gb216, 2, none⟩ = some (.slice A0_2 l0_2.length c0_2) := (blk_cell BK216.out 2).trans rfl; have hcz98_3 : w97.cell? ⟨gb216, 3, none⟩ = some (.slice A0_3 l0_3.length c0_3) := (blk_cell BK216.out 3).trans rfl; have hfz98_0 := blk_frozen BK216.out 0; have hfz98_1 := blk_frozen BK216.out 1; have hfz98_2 := blk_frozen BK216.out 2; have hfz98_3 := blk_frozen BK216.out 3) | ((with_reducible refine gate_callee (f := 33) rfl ?_); refine goesL_ (some 12) rfl rfl Try.func33 (by kernel_rfl) rfl #[.agg #[.int .i64 a0_0, .int .i64 a0_1, .slice A0_2 l0_2.length c0_2, .slice A0_3 l0_3.length c0_3], .int .i64 8] rfl (by (try simp only [List.map_toArray, List.map_cons, List.map_nil]); first | done | rfl | (simp only [List.length_drop, List.length_take]; rfl)) ?_; (with_reducible refine (semigrouplaw07_small.calls k a0_0 a0_1 _ _ l0_2 _ _ l0_3 8 false _ ?side1 ?side2 ?side3 ?side4 A3.out).mono ?_); (case side1 => repeat (first | exact (Kd.C_below HR0_2.out HB.out) | (with_reducible refine Kd.C_alloc ?_ _) | (with_reducible refine Kd.C_drewN ?_ _) | (with_reducible refine Kd.C_drew ?_))); (case side2 => exact HC0_2.out); (case side3 => repeat (first | exact (Kd.C_below HR0_3.out HB.out) | (with_reducible refine Kd.C_alloc ?_ _) | (with_reducible refine Kd.C_drewN ?_ _) | (with_reducible refine Kd.C_drew ?_))); (case side4 => exact HC0_3.out); rintro e w99 ⟨rfl, hb⟩; refine ⟨_, rfl, ?_⟩; have n0_ := Aside0.mk (blk_below (g := gb216) (o := .cells #[.int .i64 a0_0, .int .i64 a0_1, .slice A0_2 l0_2.length c0_2, .slice A0_3 l0_3.length c0_3] 25 (0, 0)) (uB BK216.out) hb); have n1_ := Aside0.mk (below_step (by repeat (first | (with_reducible first | exact HB.out | apply below_alloc | apply pw_below_drewN | apply below_drew1 | refine below_set ?_ GE216.out) | exact HB.out)) hb); clear BK216; clear HB; have BK216 := n0_; have HB := n1_; clear n0_ n1_; (try clear hb); (try clear hb2); (try clear hk); (try clear hi)) | ((with_reducible refine gate_callee (f := 16) rfl ?_); refine goesL_ (some 14) rfl rfl Try.func16 (by kernel_rfl) rfl #[] rfl (by (try simp only [List.map_toArray, List.map_cons, List.map_nil]); first | done | rfl | (simp only [List.length_drop, List.length_take]; rfl)) ?_; (with_reducible refine (semigrouplaw07_awake.calls k  t218 _ A96.out).mono ?_); rintro e w100 ⟨rfl, hb⟩; refine ⟨_, rfl, ?_⟩; have n0_ := Aside0.mk (blk_below (g := gb216) (o := .cells #[.int .i64 a0_0, .int .i64 a0_1, .slice A0_2 l0_2.length c0_2, .slice A0_3 l0_3.length c0_3] 25 (0, 0)) (uB BK216.out) hb); have n1_ := Aside0.mk (below_step (by repeat (first | (with_reducible first | exact HB.out | apply below_alloc | apply pw_below_drewN | apply below_drew1 | refine below_set ?_ GE216.out) | exact HB.out)) hb); clear BK216; clear HB; have BK216 := n0_; have HB := n1_; clear n0_ n1_; (try clear hb); (try clear hb2); (try clear hk); (try clear hi)))
 go_ret
 exact ⟨by first | rfl | (simp [errW_none, errW_some] <;> rfl) | (simp [*, errW_none, errW_some] <;> rfl), by repeat (first | (with_reducible first | exact HB.out | apply below_alloc | apply pw_below_drewN | apply below_drew1 | refine below_set ?_ GE216.out) | exact HB.out)⟩
 )
end Go.Proofs.Ytpjbmgoagehjkaa.PDfaEnumerates
