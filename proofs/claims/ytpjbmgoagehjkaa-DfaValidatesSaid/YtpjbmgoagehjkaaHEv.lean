/- More words for loops that end: from some number of rounds on. -/
import Derived.Test.YtpjbmgoagehjkaaWWords
namespace Go.Proofs.YtpjbmgoagehjkaaH
open Go Go.RowKit Go.Proofs.YtpjbmgoagehjkaaW.PrintWords
section
variable {α β : Type} {f g : Nat → Option α} {r : α} {c : Prop} [Decidable c]
theorem ev_pos (h : c) (k : Ev f r) : Ev (fun n => if c then f n else g n) r := by simpa only [if_pos h] using k
theorem ev_neg (h : ¬ c) (k : Ev g r) : Ev (fun n => if c then f n else g n) r := by simpa only [if_neg h] using k
theorem ev_some (r : α) : Ev (fun _ => some r) r := Ev.now r
theorem ev_bind {α β : Type} {g : Nat → Option α} {f : Nat → α → Option β} {a : α} {r : β} (h : Ev g a) (k : Ev (fun n => f n a) r) : Ev (fun n => (g n).bind (f n)) r := Ev.bind h k
theorem ev_bind0 {α β : Type} {x : Option α} {f : Nat → α → Option β} {a : α} {r : β} (h : x = some a) (k : Ev (fun n => f n a) r) : Ev (fun n => x.bind (f n)) r := by
  subst h
  exact k
theorem ev_eq {r' : α} (h : Ev f r) (e : r = r') : Ev f r' := e ▸ h
end
theorem wrap_succ {i : Nat} {n : Nat} (h : i < n) (hn : n ≤ 140737488355328) : wrap64 ((i : Int) + 1) = ((i + 1 : Nat) : Int) := by unfold wrap64; omega
theorem wrap_in {x : Int} (h : -9223372036854775808 ≤ x) (h' : x ≤ 9223372036854775807) : wrap64 x = x := by unfold wrap64; omega
theorem rd_at (l : List Int) (i : Nat) (h : i < l.length) : rd l (i : Int) = l[i] := by simp [rd, List.getD, h]
theorem rd_app (p q : List Int) (x : Int) : rd (p ++ x :: q) (p.length : Int) = x := by simp [rd, List.getD]
theorem bl_irrefl : ∀ l : List UInt8, Op.bytesLess l l = false
  | [] => rfl
  | a :: l => by simp [Op.bytesLess, bl_irrefl l, UInt8.lt_irrefl]
theorem bl_asymm : ∀ {a b : List UInt8}, Op.bytesLess a b = true → Op.bytesLess b a = false
  | [], [], h => by simp [Op.bytesLess] at h
  | [], _ :: _, _ => rfl
  | _ :: _, [], h => by simp [Op.bytesLess] at h
  | x :: a, y :: b, h => by
    simp only [Op.bytesLess, Bool.or_eq_true, Bool.and_eq_true, decide_eq_true_eq, beq_iff_eq] at h
    simp only [Op.bytesLess, Bool.or_eq_false_iff, decide_eq_false_iff_not, Bool.and_eq_false_iff, beq_eq_false_iff_ne]
    rcases h with h | ⟨rfl, h⟩
    · rw [UInt8.lt_iff_toNat_lt] at h
      refine ⟨by rw [UInt8.lt_iff_toNat_lt]; omega, .inl ?_⟩
      rintro rfl
      omega
    · exact ⟨UInt8.lt_irrefl _, .inr (bl_asymm h)⟩
theorem bl_eq : ∀ {a b : List UInt8}, Op.bytesLess a b = false → Op.bytesLess b a = false → a = b
  | [], [], _, _ => rfl
  | [], _ :: _, h, _ => by simp [Op.bytesLess] at h
  | _ :: _, [], _, h => by simp [Op.bytesLess] at h
  | x :: a, y :: b, h, h' => by
    simp only [Op.bytesLess, Bool.or_eq_false_iff, decide_eq_false_iff_not, Bool.and_eq_false_iff, beq_eq_false_iff_ne] at h h'
    have e : x = y := by
      have h1 := h.1
      have h2 := h'.1
      rw [UInt8.lt_iff_toNat_lt] at h1 h2
      exact UInt8.toNat_inj.1 (by omega)
    subst e
    have h3 := h.2.resolve_left (fun h => h rfl)
    have h4 := h'.2.resolve_left (fun h => h rfl)
    rw [bl_eq h3 h4]
theorem bl_ne {a b : List UInt8} (h : Op.bytesLess b a = true) : (a == b) = false := by
  rw [beq_eq_false_iff_ne]
  rintro rfl
  rw [bl_irrefl] at h
  cases h
theorem bl_beq {a b : List UInt8} (h : Op.bytesLess a b = false) (h' : Op.bytesLess b a = false) : (a == b) = true := by
  rw [bl_eq h h']
  simp
end Go.Proofs.YtpjbmgoagehjkaaH
