-- by hp.py of this repo, over the kit's print: Lean checks it
import Derived.Test.YtjpghckijecdcaaRows
import Derived.Test.YtjpghckijecdcaaQPartitionJoins
import Derived.Test.YtjpghckijecdcaaPurePartitionJoins
import Derived.WalkKit
import Derived.ProofKit
import Derived.OpenShut
import Derived.ShutString
import Derived.ChangeOld
import Derived.Below
import Derived.SizedLaws
namespace Go.Proofs.Ytjpghckijecdcaa.partitionJoins
open Go.ChangeShapes Go.WideShapes Go.ChangeAt Go.RowKit Go.Proofs.Ytjpghckijecdcaa.PPartitionJoins Go.Proofs.YtjpghckijecdcaaH Go.Proofs.YtjpghckijecdcaaW.PrintWords
set_option linter.unusedVariables false
theorem own : ownKnob Try.prog.godebug = none := by kernel_rfl
theorem laidOut : laidOutB Try.prog = true := by kernel_rfl
set_option maxRecDepth 100000 in
theorem lifted (os : Os) (started : os.Started) (H : Type) (enc : TypeId × Value → H) :
    ReturnsInHanded {} Try.checked os 13 .any (Rows.partitionJoinsSpec.pre6 enc Try.prog Try.f13 Rows.partitionJoinsRow.domain false) (Rows.partitionJoinsSpec.post enc Try.prog Try.f13 false true false false) := by
  refine returnsInHanded_of_change_sized (C := Try.checked) own started (by kernel_rfl) Try.func13
    (ChangeSpec.witness6 (enc := enc) (C := Try.checked) false ⟨#[], #[.int .i64 0, .slice none 0 0, .slice none 0 0, .slice none 0 0], []⟩ 8 (by kernel_rfl) (by kernel_rfl) (by kernel_rfl) (by kernel_rfl)) ?_
  intro W base args ds gs before hval0 hW hcnd hsz0 _
  have hsz : (DataW.weightsEach Try.prog (Try.f13.params.toList ++ Rows.partitionJoinsSpec.plain.varTypes Try.prog) (ds ++ gs)).all (· ≤ reachBytes) = true := hsz0
  have hval : ∀ (j : Nat) t v, Try.f13.params[j]? = some t → args[j]? = some v → Value.okWide Try.prog W .any base t v := hval0
  have hW' := hW
  obtain ⟨p, q, hA0, hV, rfl, hfz, hnd⟩ := hW
  have hA : DataW.TrodAll enc Try.prog W 0 (fun _ => true) true Try.f13.params.toList args.toList ds p := hA0
  rw [Try.params13] at hA hval hsz
  obtain ⟨v0, vs0, d0, ds0, p0, q0, hargs, rfl, rfl, h0, r0⟩ := trodAll_cons hA
  obtain ⟨v1, vs1, d1, ds1, p1, q1, rfl, rfl, rfl, h1, r1⟩ := trodAll_cons r0
  obtain ⟨v2, vs2, d2, ds2, p2, q2, rfl, rfl, rfl, h2, r2⟩ := trodAll_cons r1
  obtain ⟨v3, vs3, d3, ds3, p3, q3, rfl, rfl, rfl, h3, r3⟩ := trodAll_cons r2
  obtain ⟨rfl, rfl, rfl⟩ := trodAll_nil r3
  obtain rfl : args = #[v0, v1, v2, v3] := by cases args; simp_all
  obtain ⟨rfl, rfl⟩ := trodVars_none hV
  have g0 : (DataW.weightsEach Try.prog [3, 31, 31, 22] [d0, d1, d2, d3]).all (· ≤ reachBytes) = true := hsz
  obtain ⟨e0, g1⟩ := weights_cons g0
  obtain ⟨e1, g2⟩ := weights_cons g1
  obtain ⟨e2, g3⟩ := weights_cons g2
  obtain ⟨e3, g4⟩ := weights_cons g3
  have k0 := h0
  have lt0 : ∀ x ∈ p0, x.block < W.heap.size := by obtain ⟨m, hm⟩ := k0; exact DataW.trod_lt m _ _ _ hm
  obtain ⟨fuel0, hf0⟩ := h0
  obtain ⟨x0, hx0, hok0⟩ := Opens.open_ (opens_int (k := .i64) Try.underlying3 (by kernel_rfl)) enc W 0 fuel0 _ _ _ _ hf0 e0
  have hv0 := hval 0 3 v0 rfl rfl
  obtain ⟨y0, rfl⟩ := okWide_int Try.underlying3 hv0
  obtain rfl : x0 = y0 := by
    have hc : (.int .i64 y0 : Value).cells.toList = [.int .i64 x0] := hx0
    exact (by simpa [Value.cells] using hc : y0 = x0).symm
  have k1 := h1
  have lt1 : ∀ x ∈ p1, x.block < W.heap.size := by obtain ⟨m, hm⟩ := k1; exact DataW.trod_lt m _ _ _ hm
  obtain ⟨fuel1, hf1⟩ := h1
  obtain ⟨x1, hx1, hok1⟩ := Opens.open_ (opens_slice (B := 16) opens42 Try.underlying31 (by kernel_rfl) (by kernel_rfl)) enc W 0 fuel1 _ _ _ _ hf1 e1
  have hv1 := hval 1 31 v1 rfl rfl
  obtain ⟨a1, len1, cap1, rfl⟩ := okWide_slice Try.underlying31 hv1
  obtain ⟨A1, c1, hc1, hl1, hr1⟩ := hx1
  obtain ⟨rfl, rfl, rfl⟩ : a1 = A1 ∧ len1 = x1.length ∧ cap1 = c1 := by simpa [Value.cells] using hc1
  have k2 := h2
  have lt2 : ∀ x ∈ p2, x.block < W.heap.size := by obtain ⟨m, hm⟩ := k2; exact DataW.trod_lt m _ _ _ hm
  obtain ⟨fuel2, hf2⟩ := h2
  obtain ⟨x2, hx2, hok2⟩ := Opens.open_ (opens_slice (B := 16) opens42 Try.underlying31 (by kernel_rfl) (by kernel_rfl)) enc W 0 fuel2 _ _ _ _ hf2 e2
  have hv2 := hval 2 31 v2 rfl rfl
  obtain ⟨a2, len2, cap2, rfl⟩ := okWide_slice Try.underlying31 hv2
  obtain ⟨A2, c2, hc2, hl2, hr2⟩ := hx2
  obtain ⟨rfl, rfl, rfl⟩ : a2 = A2 ∧ len2 = x2.length ∧ cap2 = c2 := by simpa [Value.cells] using hc2
  have k3 := h3
  have lt3 : ∀ x ∈ p3, x.block < W.heap.size := by obtain ⟨m, hm⟩ := k3; exact DataW.trod_lt m _ _ _ hm
  obtain ⟨fuel3, hf3⟩ := h3
  obtain ⟨x3, hx3, hok3⟩ := Opens.open_ (opens_slice (B := 8) (opens_int (k := .i64) Try.underlying3 (by kernel_rfl)) Try.underlying22 (by kernel_rfl) (by kernel_rfl)) enc W 0 fuel3 _ _ _ _ hf3 e3
  have hv3 := hval 3 22 v3 rfl rfl
  obtain ⟨a3, len3, cap3, rfl⟩ := okWide_slice Try.underlying22 hv3
  obtain ⟨A3, c3, hc3, hl3, hr3⟩ := hx3
  obtain ⟨rfl, rfl, rfl⟩ : a3 = A3 ∧ len3 = x3.length ∧ cap3 = c3 := by simpa [Value.cells] using hc3
  clear hA0 hval0 hsz0 hsz hval
  obtain ⟨k, hk⟩ := Pure.PartitionJoins x0 x1 x2 x3 hok0 hok1 hok2 hok3
  refine (semigrouplaw03_PartitionJoins.calls (hr1 := hr1) (hc1 := hl1) (hr2 := hr2) (hc2 := hl2) (hr3 := hr3) (hc3 := hl3) (h := hk)).mono fun e W' he => ?_
  obtain ⟨he, hbel⟩ := he
  have bel : Below W.heap.size W W' := by first | exact hbel | exact hbel.below
  subst he
  exact ⟨_, rfl, _, _, _, [], _, [], hW', trodAll_mk1 (shut_bool Try.underlying4 _), (trodAll_cons_mk (Below.trod laidOut (by kernel_rfl) (of_decide_eq_true (by kernel_rfl)) k0 bel lt0) (trodAll_cons_mk (Below.trod laidOut (by kernel_rfl) (of_decide_eq_true (by kernel_rfl)) k1 bel lt1) (trodAll_cons_mk (Below.trod laidOut (by kernel_rfl) (of_decide_eq_true (by kernel_rfl)) k2 bel lt2) (trodAll_cons_mk (Below.trod laidOut (by kernel_rfl) (of_decide_eq_true (by kernel_rfl)) k3 bel lt3) trodAll_mk0)))), rfl, bel.frame _, fun h => by cases h⟩
theorem over : Rows.partitionJoinsRow.holds Try.pinned (OpenSpec.ofChange Rows.partitionJoinsSpec) :=
  OpenClaim.holds_of_wide 13 Try.f13 rfl rfl rfl rfl rfl rfl rfl ⟨rfl, rfl, rfl, rfl, rfl⟩ rfl rfl rfl rfl rfl (by kernel_rfl) Try.func13 (by kernel_rfl)
    (of_decide_eq_true (by kernel_rfl)) (by unfold Func.isWrapper; first | (rw [if_pos (by decide +kernel)]; kernel_rfl) | (rw [if_neg (by decide +kernel)]; exact ⟨rfl, rfl⟩))
    (fun os started H enc _ => lifted os started H enc)
theorem proved : Rows.PartitionJoinsSaid := over
#print axioms proved
end Go.Proofs.Ytjpghckijecdcaa.partitionJoins
namespace Go.Proofs.Ytjpghckijecdcaa
/-- The row, under a short name, for the claim. -/
theorem partitionJoins_holds : Rows.PartitionJoinsSaid := partitionJoins.proved
end Go.Proofs.Ytjpghckijecdcaa
