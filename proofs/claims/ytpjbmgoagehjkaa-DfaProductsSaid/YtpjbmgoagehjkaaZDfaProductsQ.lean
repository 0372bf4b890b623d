import Derived.Test.YtpjbmgoagehjkaaZDfaProductsx10
import Derived.KernelRfl
namespace Go.Proofs.Ytpjbmgoagehjkaa.PDfaProducts
open Go.RowKit Go.Proofs.YtpjbmgoagehjkaaW.PrintWords Go.Proofs.YtpjbmgoagehjkaaW.PrintLast Go.Proofs.YtpjbmgoagehjkaaW.PrintMore Go.Proofs.YtpjbmgoagehjkaaH
set_option linter.unusedVariables false
def ok25 (x : S25) : Prop := (fun x : Int => (Lit.int .i64 x).wf = true) x.f0 ∧ (fun x : Int => (Lit.int .i64 x).wf = true) x.f1 ∧ (fun xs : List Bool => xs.length * 1 ≤ 140737488351232 ∧ xs.length ≤ maxLen ∧ ∀ x ∈ xs, (fun _ : Bool => True) x) x.f2 ∧ (fun xs : List (List Int) => xs.length * 24 ≤ 140737488351232 ∧ xs.length ≤ maxLen ∧ ∀ x ∈ xs, (fun xs : List Int => xs.length * 8 ≤ 140737488351232 ∧ xs.length ≤ maxLen ∧ ∀ x ∈ xs, (fun x : Int => (Lit.int .i64 x).wf = true) x) x) x.f3
theorem opens25 : Opens Try.prog k25 25 ok25 := by
  refine Opens.mono (opens_struct (fun y => (⟨y.1, y.2.1, y.2.2.1, y.2.2.2⟩ : S25)) (fun _ => rfl) Try.underlying25 (by kernel_rfl) (opensF_cons (opens_int (k := .i64) Try.underlying3 (by kernel_rfl)) rfl (opensF_cons (opens_int (k := .i64) Try.underlying3 (by kernel_rfl)) rfl (opensF_cons (opens_slice (B := 1) (opens_bool Try.underlying4 (by kernel_rfl)) Try.underlying22 (by kernel_rfl) (by kernel_rfl)) rfl (opensF_one (opens_slice (B := 24) (opens_slice (B := 8) (opens_int (k := .i64) Try.underlying3 (by kernel_rfl)) Try.underlying38 (by kernel_rfl) (by kernel_rfl)) Try.underlying23 (by kernel_rfl) (by kernel_rfl)) rfl))))) ?_
  exact fun x h => h
def semigrouplaw07_DfaProducts.Pure : Prop := ∀ (x0 : S25) (x1 : S25) (x2 : Int), ok25 x0 → ok25 x1 → (fun x : Int => (Lit.int .i64 x).wf = true) x2 → ∃ k, semigrouplaw07_DfaProducts.f k x0.f0 x0.f1 x0.f2 x0.f3 x1.f0 x1.f1 x1.f2 x1.f3 x2 = some true
end Go.Proofs.Ytpjbmgoagehjkaa.PDfaProducts
