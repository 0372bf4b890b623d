import Derived.Test.YtpjbmgoagehjkaaRows
import Derived.Test.YtpjbmgoagehjkaaZDfaEnumeratesQ
import Derived.Test.YtpjbmgoagehjkaaZDfaEnumeratesP
import Derived.WalkKit
import Derived.ProofKit
import Derived.OpenShut
import Derived.ShutString
import Derived.ChangeOld
import Derived.Below
import Derived.SizedLaws
namespace Go.Proofs.Ytpjbmgoagehjkaa.dfaEnumerates
open Go.ChangeShapes Go.WideShapes Go.ChangeAt Go.RowKit Go.Proofs.Ytpjbmgoagehjkaa.PDfaEnumerates Go.Proofs.YtpjbmgoagehjkaaH Go.Proofs.YtpjbmgoagehjkaaW.PrintWords
set_option linter.unusedVariables false
theorem own : ownKnob Try.prog.godebug = none := by kernel_rfl
theorem laidOut : laidOutB Try.prog = true := by kernel_rfl
set_option maxRecDepth 100000 in
theorem lifted (os : Os) (started : os.Started) (H : Type) (enc : TypeId × Value → H) :
    ReturnsInHanded {} Try.checked os 9 .any (Rows.dfaEnumeratesSpec.pre6 enc Try.prog Try.f9 Rows.dfaEnumeratesRow.domain false) (Rows.dfaEnumeratesSpec.post enc Try.prog Try.f9 false true false false) := by
  refine returnsInHanded_of_change_sized (C := Try.checked) own started (by kernel_rfl) Try.func9
    (ChangeSpec.witness6 (enc := enc) (C := Try.checked) false ⟨#[], #[.agg #[.int .i64 0, .int .i64 0, .slice none 0 0, .slice none 0 0], .string ByteArray.empty], []⟩ 8 (by kernel_rfl) (by kernel_rfl) (by kernel_rfl) (by kernel_rfl)) ?_
  intro W base args ds gs before hval0 hW hcnd hsz0 _
  have hsz : (DataW.weightsEach Try.prog (Try.f9.params.toList ++ Rows.dfaEnumeratesSpec.plain.varTypes Try.prog) (ds ++ gs)).all (· ≤ reachBytes) = true := hsz0
  have hval : ∀ (j : Nat) t v, Try.f9.params[j]? = some t → args[j]? = some v → Value.okWide Try.prog W .any base t v := hval0
  have hW' := hW
  obtain ⟨p, q, hA0, hV, rfl, hfz, hnd⟩ := hW
  have hA : DataW.TrodAll enc Try.prog W 0 (fun _ => true) true Try.f9.params.toList args.toList ds p := hA0
  rw [Try.params9] at hA hval hsz
  obtain ⟨v0, vs0, d0, ds0, p0, q0, hargs, rfl, rfl, h0, r0⟩ := trodAll_cons hA
  obtain ⟨v1, vs1, d1, ds1, p1, q1, rfl, rfl, rfl, h1, r1⟩ := trodAll_cons r0
  obtain ⟨rfl, rfl, rfl⟩ := trodAll_nil r1
  obtain rfl : args = #[v0, v1] := by cases args; simp_all
  obtain ⟨rfl, rfl⟩ := trodVars_none hV
  have g0 : (DataW.weightsEach Try.prog [25, 9] [d0, d1]).all (· ≤ reachBytes) = true := hsz
  obtain ⟨e0, g1⟩ := weights_cons g0
  obtain ⟨e1, g2⟩ := weights_cons g1
  have k0 := h0
  have lt0 : ∀ x ∈ p0, x.block < W.heap.size := by obtain ⟨m, hm⟩ := k0; exact DataW.trod_lt m _ _ _ hm
  obtain ⟨fuel0, hf0⟩ := h0
  obtain ⟨x0, hx0, hok0⟩ := Opens.open_ opens25 enc W 0 fuel0 _ _ _ _ hf0 e0
  have hv0 := hval 0 25 v0 rfl rfl
  obtain ⟨c0, rfl, _⟩ := okWide_struct Try.underlying25 hv0
  obtain ⟨A0_2, c0_2, A0_3, c0_3, hc0, hl0_2, hr0_2, hl0_3, hr0_3⟩ := k25_open hx0
  obtain rfl : c0 = #[.int .i64 x0.f0, .int .i64 x0.f1, .slice A0_2 x0.f2.length c0_2, .slice A0_3 x0.f3.length c0_3] := by cases c0; simpa [Value.cells] using hc0
  have k1 := h1
  have lt1 : ∀ x ∈ p1, x.block < W.heap.size := by obtain ⟨m, hm⟩ := k1; exact DataW.trod_lt m _ _ _ hm
  obtain ⟨fuel1, hf1⟩ := h1
  obtain ⟨x1, hx1, hok1⟩ := Opens.open_ (opens_string Try.underlying9 (by kernel_rfl)) enc W 0 fuel1 _ _ _ _ hf1 e1
  have hv1 := hval 1 9 v1 rfl rfl
  obtain ⟨y1, rfl⟩ := okWide_string Try.underlying9 hv1
  obtain rfl : x1 = y1 := by
    have hc : (.string y1 : Value).cells.toList = [.string x1] := hx1
    exact (by simpa [Value.cells] using hc : y1 = x1).symm
  clear hA0 hval0 hsz0 hsz hval
  obtain ⟨k, hk⟩ := Pure.DfaEnumerates x0 x1 hok0 hok1
  refine (semigrouplaw07_DfaEnumerates.calls (hr0_2 := hr0_2) (hc0_2 := hl0_2) (hr0_3 := hr0_3) (hc0_3 := hl0_3) (h := hk)).mono fun e W' he => ?_
  obtain ⟨he, hbel⟩ := he
  have bel : Below W.heap.size W W' := by first | exact hbel | exact hbel.below
  subst he
  exact ⟨_, rfl, _, _, _, [], _, [], hW', trodAll_mk1 (shut_bool Try.underlying4 _), (trodAll_cons_mk (Below.trod laidOut (by kernel_rfl) (of_decide_eq_true (by kernel_rfl)) k0 bel lt0) (trodAll_cons_mk (Below.trod laidOut (by kernel_rfl) (of_decide_eq_true (by kernel_rfl)) k1 bel lt1) trodAll_mk0)), rfl, bel.frame _, fun h => by cases h⟩
theorem over : Rows.dfaEnumeratesRow.holds Try.pinned (OpenSpec.ofChange Rows.dfaEnumeratesSpec) :=
  OpenClaim.holds_of_wide 9 Try.f9 rfl rfl rfl rfl rfl rfl rfl ⟨rfl, rfl, rfl, rfl, rfl⟩ rfl rfl rfl rfl rfl (by kernel_rfl) Try.func9 (by kernel_rfl)
    (of_decide_eq_true (by kernel_rfl)) (by unfold Func.isWrapper; first | (rw [if_pos (by decide +kernel)]; kernel_rfl) | (rw [if_neg (by decide +kernel)]; exact ⟨rfl, rfl⟩))
    (fun os started H enc _ => lifted os started H enc)
theorem proved : Rows.DfaEnumeratesSaid := over
#print axioms proved
end Go.Proofs.Ytpjbmgoagehjkaa.dfaEnumerates
namespace Go.Proofs.Ytpjbmgoagehjkaa
/-- The row, under a short name, for the claim. -/
theorem dfaEnumerates_holds : Rows.DfaEnumeratesSaid := dfaEnumerates.proved
end Go.Proofs.Ytpjbmgoagehjkaa
