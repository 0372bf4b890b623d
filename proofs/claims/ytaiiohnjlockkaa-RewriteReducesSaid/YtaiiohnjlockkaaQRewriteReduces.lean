-- by hp.py of this repo, over the kit's print: Lean checks it
import Derived.Test.YtaiiohnjlockkaaPRewriteReducesx4
import Derived.KernelRfl
namespace Go.Proofs.Ytaiiohnjlockkaa.PRewriteReduces
open Go.RowKit Go.Proofs.YtaiiohnjlockkaaW.PrintWords Go.Proofs.YtaiiohnjlockkaaW.PrintLast Go.Proofs.YtaiiohnjlockkaaW.PrintMore Go.Proofs.YtaiiohnjlockkaaH
set_option linter.unusedVariables false
def ok41 (x : S41) : Prop := (fun s : ByteArray => s.size ≤ 140737488351232) x.f0 ∧ (fun s : ByteArray => s.size ≤ 140737488351232) x.f1
theorem opens41 : Opens Try.prog k41 41 ok41 := by
  refine Opens.mono (opens_struct (fun y => (⟨y.1, y.2⟩ : S41)) (fun _ => rfl) Try.underlying41 (by kernel_rfl) (opensF_cons (opens_string Try.underlying9 (by kernel_rfl)) rfl (opensF_one (opens_string Try.underlying9 (by kernel_rfl)) rfl))) ?_
  exact fun x h => h
def semigrouplaw13_RewriteReduces.Pure : Prop := ∀ (x0 : List (S41)) (x1 : ByteArray), (fun xs : List (S41) => xs.length * 32 ≤ 140737488351232 ∧ xs.length ≤ maxLen ∧ ∀ x ∈ xs, ok41 x) x0 → (fun s : ByteArray => s.size ≤ 140737488351232) x1 → ∃ k, semigrouplaw13_RewriteReduces.f k x0 x1 = some true
end Go.Proofs.Ytaiiohnjlockkaa.PRewriteReduces
