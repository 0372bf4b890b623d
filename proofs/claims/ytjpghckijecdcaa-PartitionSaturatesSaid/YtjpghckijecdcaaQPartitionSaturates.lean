-- by hp.py of this repo, over the kit's print: Lean checks it
import Derived.Test.YtjpghckijecdcaaPPartitionSaturatesx3
import Derived.KernelRfl
namespace Go.Proofs.Ytjpghckijecdcaa.PPartitionSaturates
open Go.RowKit Go.Proofs.YtjpghckijecdcaaW.PrintWords Go.Proofs.YtjpghckijecdcaaW.PrintLast Go.Proofs.YtjpghckijecdcaaW.PrintMore Go.Proofs.YtjpghckijecdcaaH
set_option linter.unusedVariables false
def semigrouplaw03_PartitionSaturates.Pure : Prop := ∀ (x0 : List Int) (x1 : List Bool), (fun xs : List Int => xs.length * 8 ≤ 140737488351232 ∧ xs.length ≤ maxLen ∧ ∀ x ∈ xs, (fun x : Int => (Lit.int .i64 x).wf = true) x) x0 → (fun xs : List Bool => xs.length * 1 ≤ 140737488351232 ∧ xs.length ≤ maxLen ∧ ∀ x ∈ xs, (fun _ : Bool => True) x) x1 → ∃ k, semigrouplaw03_PartitionSaturates.f k x0 x1 = some true
end Go.Proofs.Ytjpghckijecdcaa.PPartitionSaturates
