-- by hp.py of this repo, over the kit's print: Lean checks it
import Derived.Test.YtjpghckijecdcaaPPartitionJoinsx5
import Derived.KernelRfl
namespace Go.Proofs.Ytjpghckijecdcaa.PPartitionJoins
open Go.RowKit Go.Proofs.YtjpghckijecdcaaW.PrintWords Go.Proofs.YtjpghckijecdcaaW.PrintLast Go.Proofs.YtjpghckijecdcaaW.PrintMore Go.Proofs.YtjpghckijecdcaaH
set_option linter.unusedVariables false
def ok42 (x : S42) : Prop := (fun x : Int => (Lit.int .i64 x).wf = true) x.f0 ∧ (fun x : Int => (Lit.int .i64 x).wf = true) x.f1
theorem opens42 : Opens Try.prog k42 42 ok42 := by
  refine Opens.mono (opens_array (sz := 1) (fun y => (⟨y.1, y.2⟩ : S42)) (fun _ => rfl) Try.underlying42 (by kernel_rfl) (by kernel_rfl) (opensF_cons (opens_int (k := .i64) Try.underlying3 (by kernel_rfl)) rfl (opensF_one (opens_int (k := .i64) Try.underlying3 (by kernel_rfl)) rfl))) ?_
  exact fun x h => h
def semigrouplaw03_PartitionJoins.Pure : Prop := ∀ (x0 : Int) (x1 : List (S42)) (x2 : List (S42)) (x3 : List Int), (fun x : Int => (Lit.int .i64 x).wf = true) x0 → (fun xs : List (S42) => xs.length * 16 ≤ 140737488351232 ∧ xs.length ≤ maxLen ∧ ∀ x ∈ xs, ok42 x) x1 → (fun xs : List (S42) => xs.length * 16 ≤ 140737488351232 ∧ xs.length ≤ maxLen ∧ ∀ x ∈ xs, ok42 x) x2 → (fun xs : List Int => xs.length * 8 ≤ 140737488351232 ∧ xs.length ≤ maxLen ∧ ∀ x ∈ xs, (fun x : Int => (Lit.int .i64 x).wf = true) x) x3 → ∃ k, semigrouplaw03_PartitionJoins.f k x0 x1 x2 x3 = some true
end Go.Proofs.Ytjpghckijecdcaa.PPartitionJoins
