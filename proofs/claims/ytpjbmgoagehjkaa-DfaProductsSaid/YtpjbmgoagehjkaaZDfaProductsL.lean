import Derived.Test.YtpjbmgoagehjkaaRows
import Derived.Test.YtpjbmgoagehjkaaZDfaProductsQ
import Derived.Test.YtpjbmgoagehjkaaZDfaProductsP
import Derived.WalkKit
import Derived.ProofKit
import Derived.OpenShut
import Derived.ShutString
import Derived.ChangeOld
import Derived.Below
import Derived.SizedLaws
namespace Go.Proofs.Ytpjbmgoagehjkaa.dfaProducts
open Go.ChangeShapes Go.WideShapes Go.ChangeAt Go.RowKit Go.Proofs.Ytpjbmgoagehjkaa.PDfaProducts Go.Proofs.YtpjbmgoagehjkaaH Go.Proofs.YtpjbmgoagehjkaaW.PrintWords
set_option linter.unusedVariables false
theorem own : ownKnob Try.prog.godebug = none := by kernel_rfl
theorem laidOut : laidOutB Try.prog = true := by kernel_rfl
set_option maxRecDepth 100000 in
theorem lifted (os : Os) (started : os.Started) (H : Type) (enc : TypeId × Value → H) :
    ReturnsInHanded {} Try.checked os 8 .any (Rows.dfaProductsSpec.pre6 enc Try.prog Try.f8 Rows.dfaProductsRow.domain false) (Rows.dfaProductsSpec.post enc Try.prog Try.f8 false true false false) := by
  refine returnsInHanded_of_change_sized (C := Try.checked) own started (by kernel_rfl) Try.func8
    (ChangeSpec.witness6 (enc := enc) (C := Try.checked) false ⟨#[], #[.agg #[.int .i64 0, .int .i64 0, .slice none 0 0, .slice none 0 0], .agg #[.int .i64 0, .int .i64 0, .slice none 0 0, .slice none 0 0], .int .i64 0], []⟩ 8 (by kernel_rfl) (by kernel_rfl) (by kernel_rfl) (by kernel_rfl)) ?_
  intro W base args ds gs before hval0 hW hcnd hsz0 _
  have hsz : (DataW.weightsEach Try.prog (Try.f8.params.toList ++ Rows.dfaProductsSpec.plain.varTypes Try.prog) (ds ++ gs)).all (· ≤ reachBytes) = true := hsz0
  have hval : ∀ (j : Nat) t v, Try.f8.params[j]? = some t → args[j]? = some v → Value.okWide Try.prog W .any base t v := hval0
  have hW' := hW
  obtain ⟨p, q, hA0, hV, rfl, hfz, hnd⟩ := hW
  have hA : DataW.TrodAll enc Try.prog W 0 (fun _ => true) true Try.f8.params.toList args.toList ds p := hA0
  rw [Try.params8] at hA hval hsz
  obtain ⟨v0, vs0, d0, ds0, p0, q0, hargs, rfl, rfl, h0, r0⟩ := trodAll_cons hA
  obtain ⟨v1, vs1, d1, ds1, p1, q1, rfl, rfl, rfl, h1, r1⟩ := trodAll_cons r0
  obtain ⟨v2, vs2, d2, ds2, p2, q2, rfl, rfl, rfl, h2, r2⟩ := trodAll_cons r1
  obtain ⟨rfl, rfl, rfl⟩ := trodAll_nil r2
  obtain rfl : args = #[v0, v1, v2] := by cases args; simp_all
  obtain ⟨rfl, rfl⟩ := trodVars_none hV
  have g0 : (DataW.weightsEach Try.prog [25, 25, 3] [d0, d1, d2]).all (· ≤ reachBytes) = true := hsz
  obtain ⟨e0, g1⟩ := weights_cons g0
  obtain ⟨e1, g2⟩ := weights_cons g1
  obtain ⟨e2, g3⟩ := weights_cons g2
  have k0 := h0
  have lt0 : ∀ x ∈ p0, x.block < W.heap.size := by obtain ⟨m, hm⟩ := k0; exact DataW.trod_lt m _ _ _ hm
  obtain ⟨fuel0, hf0⟩ := h0
  obtain ⟨x0, hx0, hok0⟩ := Opens.open_ opens25 enc W 0 fuel0 _ _ _ _ hf0 e0
  have hv0 := hval 0 25 v0 rfl rfl
  obtain ⟨c0, rfl, _⟩ := okWide_struct Try.underlying25 hv0
  obtain ⟨A0_2, c0_2, A0_3, c0_3, hc0, hl0_2, hr0_2, hl0_3, hr0_3⟩ := k25_open hx0
  obtain rfl : c0 = #[.int .i64 x0.f0, .int .i64 x0.f1, .slice A0_2 x0.f2.length c0_2, .slice A0_3 x0.f3.length c0_3] := by cases c0; simpa [Value.cells] using hc0
  have k1 := h1
  have lt1 : ∀ x ∈ p1, x.block < W.heap.size := by obtain ⟨m, hm⟩ := k1; exact DataW.trod_lt m _ _ _ hm
  obtain ⟨fuel1, hf1⟩ := h1
  obtain ⟨x1, hx1, hok1⟩ := Opens.open_ opens25 enc W 0 fuel1 _ _ _ _ hf1 e1
  have hv1 := hval 1 25 v1 rfl rfl
  obtain ⟨c1, rfl, _⟩ := okWide_struct Try.underlying25 hv1
  obtain ⟨A1_2, c1_2, A1_3, c1_3, hc1, hl1_2, hr1_2, hl1_3, hr1_3⟩ := k25_open hx1
  obtain rfl : c1 = #[.int .i64 x1.f0, .int .i64 x1.f1, .slice A1_2 x1.f2.length c1_2, .slice A1_3 x1.f3.length c1_3] := by cases c1; simpa [Value.cells] using hc1
  have k2 := h2
  have lt2 : ∀ x ∈ p2, x.block < W.heap.size := by obtain ⟨m, hm⟩ := k2; exact DataW.trod_lt m _ _ _ hm
  obtain ⟨fuel2, hf2⟩ := h2
  obtain ⟨x2, hx2, hok2⟩ := Opens.open_ (opens_int (k := .i64) Try.underlying3 (by kernel_rfl)) enc W 0 fuel2 _ _ _ _ hf2 e2
  have hv2 := hval 2 3 v2 rfl rfl
  obtain ⟨y2, rfl⟩ := okWide_int Try.underlying3 hv2
  obtain rfl : x2 = y2 := by
    have hc : (.int .i64 y2 : Value).cells.toList = [.int .i64 x2] := hx2
    exact (by simpa [Value.cells] using hc : y2 = x2).symm
  clear hA0 hval0 hsz0 hsz hval
  obtain ⟨k, hk⟩ := Pure.DfaProducts x0 x1 x2 hok0 hok1 hok2
  refine (semigrouplaw07_DfaProducts.calls (hr0_2 := hr0_2) (hc0_2 := hl0_2) (hr0_3 := hr0_3) (hc0_3 := hl0_3) (hr1_2 := hr1_2) (hc1_2 := hl1_2) (hr1_3 := hr1_3) (hc1_3 := hl1_3) (h := hk)).mono fun e W' he => ?_
  obtain ⟨he, hbel⟩ := he
  have bel : Below W.heap.size W W' := by first | exact hbel | exact hbel.below
  subst he
  exact ⟨_, rfl, _, _, _, [], _, [], hW', trodAll_mk1 (shut_bool Try.underlying4 _), (trodAll_cons_mk (Below.trod laidOut (by kernel_rfl) (of_decide_eq_true (by kernel_rfl)) k0 bel lt0) (trodAll_cons_mk (Below.trod laidOut (by kernel_rfl) (of_decide_eq_true (by kernel_rfl)) k1 bel lt1) (trodAll_cons_mk (Below.trod laidOut (by kernel_rfl) (of_decide_eq_true (by kernel_rfl)) k2 bel lt2) trodAll_mk0))), rfl, bel.frame _, fun h => by cases h⟩
theorem over : Rows.dfaProductsRow.holds Try.pinned (OpenSpec.ofChange Rows.dfaProductsSpec) :=
  OpenClaim.holds_of_wide 8 Try.f8 rfl rfl rfl rfl rfl rfl rfl ⟨rfl, rfl, rfl, rfl, rfl⟩ rfl rfl rfl rfl rfl (by kernel_rfl) Try.func8 (by kernel_rfl)
    (of_decide_eq_true (by kernel_rfl)) (by unfold Func.isWrapper; first | (rw [if_pos (by decide +kernel)]; kernel_rfl) | (rw [if_neg (by decide +kernel)]; exact ⟨rfl, rfl⟩))
    (fun os started H enc _ => lifted os started H enc)
theorem proved : Rows.DfaProductsSaid := over
#print axioms proved
end Go.Proofs.Ytpjbmgoagehjkaa.dfaProducts
namespace Go.Proofs.Ytpjbmgoagehjkaa
/-- The row, under a short name, for the claim. -/
theorem dfaProducts_holds : Rows.DfaProductsSaid := dfaProducts.proved
end Go.Proofs.Ytpjbmgoagehjkaa
