/- More words for loops that end: from some number of rounds on. -/
import Derived.Test.YtjpghckijecdcaaWWords
namespace Go.Proofs.YtjpghckijecdcaaH
open Go Go.RowKit Go.Proofs.YtjpghckijecdcaaW.PrintWords
section
variable {α β : Type} {f g : Nat → Option α} {r : α} {c : Prop} [Decidable c]
theorem ev_pos (h : c) (k : Ev f r) : Ev (fun n => if c then f n else g n) r := by simpa only [if_pos h] using k
theorem ev_neg (h : ¬ c) (k : Ev g r) : Ev (fun n => if c then f n else g n) r := by simpa only [if_neg h] using k
theorem ev_some (r : α) : Ev (fun _ => some r) r := Ev.now r
theorem ev_bind {α β : Type} {g : Nat → Option α} {f : Nat → α → Option β} {a : α} {r : β} (h : Ev g a) (k : Ev (fun n => f n a) r) : Ev (fun n => (g n).bind (f n)) r := Ev.bind h k
theorem ev_bind0 {α β : Type} {x : Option α} {f : Nat → α → Option β} {a : α} {r : β} (h : x = some a) (k : Ev (fun n => f n a) r) : Ev (fun n => x.bind (f n)) r := by
  subst h
  exact k
theorem ev_eq {r' : α} (h : Ev f r) (e : r = r') : Ev f r' := e ▸ h
end
theorem wrap_succ {i : Nat} {n : Nat} (h : i < n) (hn : n ≤ 140737488355328) : wrap64 ((i : Int) + 1) = ((i + 1 : Nat) : Int) := by unfold wrap64; omega
theorem wrap_in {x : Int} (h : -9223372036854775808 ≤ x) (h' : x ≤ 9223372036854775807) : wrap64 x = x := by unfold wrap64; omega
theorem rd_at (l : List Int) (i : Nat) (h : i < l.length) : rd l (i : Int) = l[i] := by simp [rd, List.getD, h]
theorem rd_app (p q : List Int) (x : Int) : rd (p ++ x :: q) (p.length : Int) = x := by simp [rd, List.getD]
end Go.Proofs.YtjpghckijecdcaaH
