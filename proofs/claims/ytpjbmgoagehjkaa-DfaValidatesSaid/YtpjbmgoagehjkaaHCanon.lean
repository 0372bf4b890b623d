/- The numbering of the classes of a list, in plain Lean. -/
import Derived.Test.YtpjbmgoagehjkaaHMap
import Derived.Test.YtpjbmgoagehjkaaWWords
namespace Go.Proofs.YtpjbmgoagehjkaaH
open Go Go.RowKit Go.Proofs.YtpjbmgoagehjkaaW.PrintWords
/-- One step of the numbering: the numbers that are given, and the list so far. -/
def canonStep (s : List (Int × Int) × List Int) (x : Int) : List (Int × Int) × List Int :=
  match mget s.1 x with
  | some k => (s.1, s.2 ++ [k])
  | none => (mput s.1 x s.1.length, s.2 ++ [(s.1.length : Int)])
def canonL (l : List Int) : List (Int × Int) × List Int := l.foldl canonStep ([], [])
theorem canonStep_once {s : List (Int × Int) × List Int} (h : Once s.1) (x : Int) : Once (canonStep s x).1 := by
  unfold canonStep
  split
  · exact h
  · exact once_put h _ _
theorem canonStep_len (s : List (Int × Int) × List Int) (x : Int) : (canonStep s x).2.length = s.2.length + 1 := by
  unfold canonStep
  split <;> simp
theorem canonL_snoc (l : List Int) (x : Int) : canonL (l ++ [x]) = canonStep (canonL l) x := by simp [canonL]
theorem canonL_once (l : List Int) : Once (canonL l).1 := by
  unfold canonL
  suffices ∀ s : List (Int × Int) × List Int, Once s.1 → Once (l.foldl canonStep s).1 from this _ once_nil
  induction l with
  | nil => exact fun _ h => h
  | cons x l ih => exact fun s h => ih _ (canonStep_once h x)
theorem canonL_len (l : List Int) : (canonL l).2.length = l.length := by
  unfold canonL
  suffices ∀ s : List (Int × Int) × List Int, (l.foldl canonStep s).2.length = s.2.length + l.length by simpa using this ([], [])
  induction l with
  | nil => simp
  | cons x l ih => intro s; rw [List.foldl_cons, ih, canonStep_len, List.length_cons]; omega
theorem canonL_map_len (l : List Int) : (canonL l).1.length ≤ l.length := by
  unfold canonL
  suffices ∀ s : List (Int × Int) × List Int, (l.foldl canonStep s).1.length ≤ s.1.length + l.length by simpa using this ([], [])
  induction l with
  | nil => simp
  | cons x l ih =>
    intro s
    rw [List.foldl_cons, List.length_cons]
    have h1 := ih (canonStep s x)
    have h2 : (canonStep s x).1.length ≤ s.1.length + 1 := by
      unfold canonStep
      split
      · simp
      · simp only [mput_length]; split <;> omega
    omega
def canonOut (l : List Int) (i : Nat) : List Int := (canonL (l.take i)).2 ++ List.replicate (l.length - i) 0
theorem canonOut_len {l : List Int} {i : Nat} (hi : i ≤ l.length) : (canonOut l i).length = l.length := by
  simp [canonOut, canonL_len]
  omega
theorem take_snoc_rd (l : List Int) (i : Nat) (hi : i < l.length) : l.take (i + 1) = l.take i ++ [rd l i] := by
  rw [List.take_succ_eq_append_getElem hi]
  simp [rd, List.getD, hi]
theorem canonOut_set (l : List Int) (i : Nat) (hi : i < l.length) (v : Int) (hv : (canonL (l.take (i + 1))).2 = (canonL (l.take i)).2 ++ [v]) : canonOut l (i + 1) = (canonOut l i).set i v := by
  unfold canonOut
  rw [hv]
  have h1 : (canonL (l.take i)).2.length = i := by rw [canonL_len, List.length_take]; omega
  obtain ⟨m, hm⟩ : ∃ m, l.length - i = m + 1 := ⟨l.length - i - 1, by omega⟩
  rw [hm, show l.length - (i + 1) = m from by omega, List.set_append, if_neg (by omega), h1, Nat.sub_self, List.replicate_succ, List.set_cons_zero, List.append_assoc, List.singleton_append]

/-! ### what the numbering gives, and which lists it leaves as they are -/
def outs : List (Int × Int) → List Int → List Int
  | _, [] => []
  | m, x :: l => match mget m x with
    | some k => k :: outs m l
    | none => (m.length : Int) :: outs (mput m x m.length) l
theorem fold_outs : ∀ (l : List Int) (m : List (Int × Int)) (acc : List Int), (l.foldl canonStep (m, acc)).2 = acc ++ outs m l
  | [], m, acc => by simp [outs]
  | x :: l, m, acc => by
    rw [List.foldl_cons]
    cases h : mget m x with
    | some k => rw [show canonStep (m, acc) x = (m, acc ++ [k]) from by simp [canonStep, h], fold_outs l, show outs m (x :: l) = k :: outs m l from by simp [outs, h], List.append_assoc, List.singleton_append]
    | none => rw [show canonStep (m, acc) x = (mput m x m.length, acc ++ [(m.length : Int)]) from by simp [canonStep, h], fold_outs l, show outs m (x :: l) = (m.length : Int) :: outs (mput m x m.length) l from by simp [outs, h], List.append_assoc, List.singleton_append]
theorem canonL_outs (l : List Int) : (canonL l).2 = outs [] l := by rw [canonL, fold_outs, List.nil_append]
theorem outs_length : ∀ (l : List Int) (m : List (Int × Int)), (outs m l).length = l.length
  | [], _ => rfl
  | x :: l, m => by
    unfold outs
    split <;> simp [outs_length l]
/-- Each number is at most the count of those before it. -/
def rgs : Nat → List Int → Bool
  | _, [] => true
  | n, x :: l => if x < 0 ∨ x > n then false else rgs (if x = n then n + 1 else n) l
theorem rgs_outs : ∀ (l : List Int) (m : List (Int × Int)), (∀ x k, mget m x = some k → 0 ≤ k ∧ k < m.length) → rgs m.length (outs m l) = true
  | [], _, _ => rfl
  | x :: l, m, hm => by
    unfold outs
    split
    · rename_i k hk
      have := hm x k hk
      unfold rgs
      rw [if_neg (by omega), if_neg (by omega)]
      exact rgs_outs l m hm
    · rename_i hk
      unfold rgs
      rw [if_neg (by omega), if_pos rfl]
      have hl : (mput m x (m.length : Int)).length = m.length + 1 := by rw [mput_length, hk]; rfl
      have := rgs_outs l (mput m x m.length) (fun y k hy => by
        rw [mget_put] at hy
        split at hy
        · injection hy with hy; omega
        · have := hm y k hy; omega)
      rwa [hl] at this
theorem rgs_canon (l : List Int) : rgs 0 (canonL l).2 = true := by
  rw [canonL_outs]
  exact rgs_outs l [] (fun x k h => by simp [mget_nil] at h)
theorem outs_id : ∀ (l : List Int) (n : Nat) (m : List (Int × Int)), m.length = n → (∀ x, mget m x = if 0 ≤ x ∧ x < n then some x else none) → (outs m l = l ↔ rgs n l = true)
  | [], _, _, _, _ => by simp [outs, rgs]
  | x :: l, n, m, hl, hm => by
    by_cases h : 0 ≤ x ∧ x < n
    · have hg : mget m x = some x := by rw [hm, if_pos h]
      rw [show outs m (x :: l) = x :: outs m l from by simp [outs, hg], show rgs n (x :: l) = rgs n l from by rw [rgs, if_neg (by omega), if_neg (by omega)]]
      simp only [List.cons.injEq, true_and]
      exact outs_id l n m hl hm
    · have hg : mget m x = none := by rw [hm, if_neg h]
      rw [show outs m (x :: l) = (m.length : Int) :: outs (mput m x m.length) l from by simp [outs, hg], hl]
      by_cases h2 : x = n
      · subst h2
        rw [show rgs n ((n : Int) :: l) = rgs (n + 1) l from by rw [rgs, if_neg (by omega), if_pos rfl]]
        simp only [List.cons.injEq, true_and]
        refine outs_id l (n + 1) _ (by rw [mput_length, hg, ← hl]; rfl) (fun y => ?_)
        rw [mget_put, hm]
        by_cases hy : (n : Int) = y
        · rw [if_pos hy, if_pos (by omega), hy]
        · rw [if_neg hy]
          by_cases hy2 : 0 ≤ y ∧ y < n
          · rw [if_pos hy2, if_pos (by omega)]
          · rw [if_neg hy2, if_neg (by omega)]
      · rw [show rgs n (x :: l) = false from by rw [rgs, if_pos (by omega)]]
        simp only [List.cons.injEq, Bool.false_eq_true, iff_false, not_and]
        intro e
        omega
theorem canon_id (l : List Int) : (canonL l).2 = l ↔ rgs 0 l = true := by
  rw [canonL_outs]
  exact outs_id l 0 [] rfl (fun x => by rw [mget_nil, if_neg (by omega)])
end Go.Proofs.YtpjbmgoagehjkaaH
