/- Two ways to list the first accepted words of an automaton agree. -/
import Derived.Test.YtpjbmgoagehjkaaZDfaListsQ
namespace Go.Proofs.Ytpjbmgoagehjkaa.Pure
open Go.RowKit Go.Proofs.Ytpjbmgoagehjkaa.PDfaLists Go.Proofs.YtpjbmgoagehjkaaW.PrintWords Go.Proofs.YtpjbmgoagehjkaaW.PrintLast Go.Proofs.YtpjbmgoagehjkaaH
set_option linter.unusedVariables false
set_option linter.unusedSimpArgs false

theorem ev_mono {α : Type} {f : Nat → Option α} {r : α} (K : Nat) (hm : ∀ k, LeO (f k) (f (k + 1))) (h : f K = some r) : Ev f r := by
  refine ⟨K, fun n hn => ?_⟩
  induction n with
  | zero => rw [show K = 0 from by omega] at h; exact h
  | succ n ih =>
    by_cases e : K = n + 1
    · rw [← e]; exact h
    · exact hm n _ (ih (by omega))

theorem words_odd : Ev (fun k => dfa_Words.f k 2 0 [false, true] [[1, 0], [0, 1]] 3) [⟨#[97]⟩, ⟨#[97, 98]⟩, ⟨#[98, 97]⟩] := by
  refine ev_mono 40 (fun k => dfa_Words.mono _ _ _ _ _ k) ?_
  kernel_rfl
theorem awake_ev : Ev (fun k => semigrouplaw07_awake.f k) true := by
  refine ev_bind0 rfl (ev_bind words_odd (ev_bind ?_ (ev_some true)))
  refine ev_mono 10 (fun k => semigroupref01_Same.mono _ _ k) ?_
  kernel_rfl

/-- A row of a valid automaton with n states and L letters. -/
def okRow (n L : Int) (row : List Int) : Bool := decide ((row.length : Int) = L) && row.all (fun q => decide (0 ≤ q ∧ q < n))
/-- What is wrong with an automaton. -/
def valE (L s : Int) (fin : List Bool) (next : List (List Int)) : Int :=
  if L < 1 ∨ L > 6 then 1 else if fin.length > 512 then 3 else if fin.length = 0 ∨ next.length ≠ fin.length ∨ s < 0 ∨ s ≥ (fin.length : Int) then 4
  else if next.all (okRow fin.length L) then 0 else 4
theorem rdL_at (l : List (List Int)) (i : Nat) (h : i < l.length) : rd_L1 l (i : Int) = l[i] := by simp [rd_L1, List.getD, h]
theorem dval_l1 (n L s : Int) (fin : List Bool) (next rows : List (List Int)) (len i : Int) (row : List Int) (hn : row.length ≤ 1000) (r : Int) : ∀ (d j : Nat), row.length - j = d → j ≤ row.length →
    ((row.drop j).all (fun q => decide (0 ≤ q ∧ q < n)) = true → Ev (fun k => dfa_Validate.l0 k n rows len (wrap64 (i + 1)) L s fin next) r) →
    (¬ (row.drop j).all (fun q => decide (0 ≤ q ∧ q < n)) = true → r = 4) →
    Ev (fun k => dfa_Validate.l1 k n rows len i row (row.length : Int) (j : Int) L s fin next) r := by
  intro d
  induction d with
  | zero =>
    intro j hd hj h h'
    exact Ev.step (fun _ => rfl) (ev_neg (by omega) (h (by rw [List.drop_eq_nil_of_le (by omega)]; rfl)))
  | succ d ih =>
    intro j hd hj h h'
    have hlt : j < row.length := by omega
    rw [List.drop_eq_getElem_cons hlt, List.all_cons] at h h'
    refine Ev.step (fun _ => rfl) (ev_pos (by omega) (ev_pos (by omega) (ev_pos (by omega) ?_)))
    rw [rd_at row j hlt]
    by_cases h1 : row[j] < 0
    · exact ev_pos h1 (ev_eq (ev_some 4) (h' (by rw [decide_eq_false (by omega)]; simp)).symm)
    · refine ev_neg h1 ?_
      by_cases h2 : row[j] ≥ n
      · exact ev_pos h2 (ev_eq (ev_some 4) (h' (by rw [decide_eq_false (by omega)]; simp)).symm)
      · refine ev_neg h2 ?_
        rw [wrap_succ hlt (by omega)]
        rw [decide_eq_true (show 0 ≤ row[j] ∧ row[j] < n by omega), Bool.true_and] at h h'
        exact ih (j + 1) (by omega) (by omega) h h'
theorem dval_l0 (n L s : Int) (hL : 0 ≤ L ∧ L ≤ 6) (fin : List Bool) (next rows : List (List Int)) (hr : rows.length ≤ 1000) : ∀ (d i : Nat), rows.length - i = d → i ≤ rows.length →
    Ev (fun k => dfa_Validate.l0 k n rows (rows.length : Int) (i : Int) L s fin next) (if (rows.drop i).all (okRow n L) then 0 else 4) := by
  intro d
  induction d with
  | zero =>
    intro i hd hi
    exact Ev.step (fun _ => rfl) (ev_neg (by omega) (ev_eq (ev_some 0) (by rw [List.drop_eq_nil_of_le (by omega)]; rfl)))
  | succ d ih =>
    intro i hd hi
    have hlt : i < rows.length := by omega
    rw [List.drop_eq_getElem_cons hlt, List.all_cons]
    refine Ev.step (fun _ => rfl) (ev_pos (by omega) (ev_pos (by omega) (ev_pos (by omega) ?_)))
    rw [rdL_at rows i hlt]
    by_cases h1 : (rows[i].length : Int) = L
    · refine ev_pos h1 (dval_l1 n L s fin next rows _ i rows[i] (by omega) _ _ 0 rfl (by omega) (fun h => ?_) (fun h => ?_))
      · rw [List.drop_zero] at h
        rw [wrap_succ hlt (by omega), show okRow n L rows[i] = true from by unfold okRow; rw [h, decide_eq_true h1]; rfl, Bool.true_and]
        exact ih (i + 1) (by omega) (by omega)
      · rw [List.drop_zero] at h
        rw [show okRow n L rows[i] = false from by unfold okRow; rw [Bool.not_eq_true] at h; rw [h, Bool.and_false], Bool.false_and]
        rfl
    · refine ev_neg h1 (ev_eq (ev_some 4) ?_)
      rw [show okRow n L rows[i] = false from by unfold okRow; rw [decide_eq_false h1, Bool.false_and], Bool.false_and]
      rfl
theorem dval_ev (L s : Int) (fin : List Bool) (next : List (List Int)) : Ev (fun k => dfa_Validate.f k L s fin next) (valE L s fin next) := by
  have J : ∀ b : Bool, b = decide (L < 1 ∨ L > 6) → Ev (fun k => dfa_Validate.j0 k (fin.length : Int) b L s fin next) (valE L s fin next) := by
    intro b e
    unfold valE
    by_cases h1 : L < 1 ∨ L > 6
    · rw [decide_eq_true h1] at e
      rw [if_pos h1]
      exact Ev.step (fun _ => rfl) (ev_pos e (ev_some 1))
    · rw [decide_eq_false h1] at e
      rw [if_neg h1]
      refine Ev.step (fun _ => rfl) (ev_neg (by simp [e]) ?_)
      by_cases h2 : fin.length > 512
      · rw [if_pos h2]
        exact ev_pos (by omega) (ev_some 3)
      · rw [if_neg h2]
        refine ev_neg (by omega) ?_
        by_cases h3 : fin.length = 0
        · rw [if_pos (.inl h3)]
          exact ev_pos (by omega) (ev_some 4)
        · refine ev_neg (by omega) ?_
          by_cases h4 : next.length = fin.length
          · refine ev_pos (by omega) ?_
            by_cases h5 : s < 0
            · rw [if_pos (.inr (.inr (.inl h5)))]
              exact ev_pos h5 (ev_some 4)
            · refine ev_neg h5 ?_
              by_cases h6 : s ≥ (fin.length : Int)
              · rw [if_pos (.inr (.inr (.inr h6)))]
                exact ev_pos h6 (ev_some 4)
              · rw [if_neg (by omega)]
                refine ev_neg h6 ?_
                have := dval_l0 (fin.length : Int) L s (by omega) fin next next (by omega) _ 0 rfl (by omega)
                rwa [List.drop_zero] at this
          · rw [if_pos (.inr (.inl h4))]
            exact ev_neg (by omega) (ev_some 4)
  by_cases h : L < 1
  · exact ev_pos h (J true (by rw [decide_eq_true (.inl h)]))
  · exact ev_neg h (J _ (by simp only [h, false_or]))

theorem rval_l1 (n L s : Int) (fin : List Bool) (next rows : List (List Int)) (len i : Int) (row : List Int) (hn : row.length ≤ 1000) (r : Int) : ∀ (d j : Nat), row.length - j = d → j ≤ row.length →
    ((row.drop j).all (fun q => decide (0 ≤ q ∧ q < n)) = true → Ev (fun k => semigroupref07_Validate.l0 k n rows len (wrap64 (i + 1)) L s fin next) r) →
    (¬ (row.drop j).all (fun q => decide (0 ≤ q ∧ q < n)) = true → r = 4) →
    Ev (fun k => semigroupref07_Validate.l1 k n rows len i row (row.length : Int) (j : Int) L s fin next) r := by
  intro d
  induction d with
  | zero =>
    intro j hd hj h h'
    exact Ev.step (fun _ => rfl) (ev_neg (by omega) (h (by rw [List.drop_eq_nil_of_le (by omega)]; rfl)))
  | succ d ih =>
    intro j hd hj h h'
    have hlt : j < row.length := by omega
    rw [List.drop_eq_getElem_cons hlt, List.all_cons] at h h'
    refine Ev.step (fun _ => rfl) (ev_pos (by omega) (ev_pos (by omega) (ev_pos (by omega) ?_)))
    rw [rd_at row j hlt]
    by_cases h1 : row[j] < 0
    · exact ev_pos h1 (ev_eq (ev_some 4) (h' (by rw [decide_eq_false (by omega)]; simp)).symm)
    · refine ev_neg h1 ?_
      by_cases h2 : row[j] ≥ n
      · exact ev_pos h2 (ev_eq (ev_some 4) (h' (by rw [decide_eq_false (by omega)]; simp)).symm)
      · refine ev_neg h2 ?_
        rw [wrap_succ hlt (by omega)]
        rw [decide_eq_true (show 0 ≤ row[j] ∧ row[j] < n by omega), Bool.true_and] at h h'
        exact ih (j + 1) (by omega) (by omega) h h'
theorem rval_l0 (n L s : Int) (hL : 0 ≤ L ∧ L ≤ 6) (fin : List Bool) (next rows : List (List Int)) (hr : rows.length ≤ 1000) : ∀ (d i : Nat), rows.length - i = d → i ≤ rows.length →
    Ev (fun k => semigroupref07_Validate.l0 k n rows (rows.length : Int) (i : Int) L s fin next) (if (rows.drop i).all (okRow n L) then 0 else 4) := by
  intro d
  induction d with
  | zero =>
    intro i hd hi
    exact Ev.step (fun _ => rfl) (ev_neg (by omega) (ev_eq (ev_some 0) (by rw [List.drop_eq_nil_of_le (by omega)]; rfl)))
  | succ d ih =>
    intro i hd hi
    have hlt : i < rows.length := by omega
    rw [List.drop_eq_getElem_cons hlt, List.all_cons]
    refine Ev.step (fun _ => rfl) (ev_pos (by omega) (ev_pos (by omega) (ev_pos (by omega) ?_)))
    rw [rdL_at rows i hlt]
    by_cases h1 : (rows[i].length : Int) = L
    · refine ev_pos h1 (rval_l1 n L s fin next rows _ i rows[i] (by omega) _ _ 0 rfl (by omega) (fun h => ?_) (fun h => ?_))
      · rw [List.drop_zero] at h
        rw [wrap_succ hlt (by omega), show okRow n L rows[i] = true from by unfold okRow; rw [h, decide_eq_true h1]; rfl, Bool.true_and]
        exact ih (i + 1) (by omega) (by omega)
      · rw [List.drop_zero] at h
        rw [show okRow n L rows[i] = false from by unfold okRow; rw [Bool.not_eq_true] at h; rw [h, Bool.and_false], Bool.false_and]
        rfl
    · refine ev_neg h1 (ev_eq (ev_some 4) ?_)
      rw [show okRow n L rows[i] = false from by unfold okRow; rw [decide_eq_false h1, Bool.false_and], Bool.false_and]
      rfl
theorem rval_ev (L s : Int) (fin : List Bool) (next : List (List Int)) : Ev (fun k => semigroupref07_Validate.f k L s fin next) (valE L s fin next) := by
  by_cases h1 : L < 1 ∨ L > 6
  · have hm : semigroupref01_MayLetters.f L = some false := by
      unfold semigroupref01_MayLetters.f
      by_cases h : L ≥ 1
      · rw [if_pos h, decide_eq_false (by omega)]
      · rw [if_neg h]
    refine ev_bind0 hm (ev_neg (by simp) (ev_eq (ev_some 1) ?_))
    unfold valE
    rw [if_pos h1]
  · have hm : semigroupref01_MayLetters.f L = some true := by
      unfold semigroupref01_MayLetters.f
      rw [if_pos (by omega), decide_eq_true (by omega)]
    refine ev_bind0 hm (ev_pos rfl ?_)
    unfold valE
    rw [if_neg h1]
    by_cases h2 : fin.length > 512
    · rw [if_pos h2]
      exact ev_pos (by omega) (ev_some 3)
    · rw [if_neg h2]
      refine ev_neg (by omega) ?_
      have J : ∀ b : Bool, b = decide (fin.length = 0 ∨ next.length ≠ fin.length ∨ s < 0 ∨ s ≥ (fin.length : Int)) → Ev (fun k => semigroupref07_Validate.j0 k (fin.length : Int) b L s fin next) (if fin.length = 0 ∨ next.length ≠ fin.length ∨ s < 0 ∨ s ≥ (fin.length : Int) then 4 else if next.all (okRow fin.length L) then 0 else 4) := by
        intro b e
        by_cases h3 : fin.length = 0 ∨ next.length ≠ fin.length ∨ s < 0 ∨ s ≥ (fin.length : Int)
        · rw [decide_eq_true h3] at e
          rw [if_pos h3]
          exact Ev.step (fun _ => rfl) (ev_pos e (ev_some 4))
        · rw [decide_eq_false h3] at e
          rw [if_neg h3]
          refine Ev.step (fun _ => rfl) (ev_neg (by simp [e]) ?_)
          have := rval_l0 (fin.length : Int) L s (by omega) fin next next (by omega) _ 0 rfl (by omega)
          rwa [List.drop_zero] at this
      by_cases h3 : fin.length = 0
      · exact ev_pos (by omega) (J true (decide_eq_true (.inl h3)).symm)
      · refine ev_neg (by omega) ?_
        by_cases h4 : next.length = fin.length
        · refine ev_pos (by omega) ?_
          by_cases h5 : s < 0
          · exact ev_pos h5 (J true (decide_eq_true (.inr (.inr (.inl h5)))).symm)
          · refine ev_neg h5 (J _ ?_)
            by_cases h6 : s ≥ (fin.length : Int)
            · rw [decide_eq_true h6, decide_eq_true (.inr (.inr (.inr h6)))]
            · rw [decide_eq_false h6, decide_eq_false (by omega)]
        · exact ev_neg (by omega) (J true (decide_eq_true (.inr (.inl h4))).symm)

theorem valid_ev (L s : Int) (fin : List Bool) (next : List (List Int)) : Ev (fun k => semigrouplaw07_valid.f k L s fin next) (valE L s fin next == 0) :=
  ev_bind (rval_ev _ _ _ _) (ev_some _)

theorem valE_zero {L s : Int} {fin : List Bool} {next : List (List Int)} (h : valE L s fin next = 0) :
    1 ≤ L ∧ L ≤ 6 ∧ 0 < fin.length ∧ fin.length ≤ 512 ∧ next.length = fin.length ∧ 0 ≤ s ∧ s < (fin.length : Int) ∧ ∀ row ∈ next, (row.length : Int) = L ∧ ∀ q ∈ row, 0 ≤ q ∧ q < (fin.length : Int) := by
  unfold valE at h
  by_cases h1 : L < 1 ∨ L > 6
  · rw [if_pos h1] at h; cases h
  rw [if_neg h1] at h
  by_cases h2 : fin.length > 512
  · rw [if_pos h2] at h; cases h
  rw [if_neg h2] at h
  by_cases h3 : fin.length = 0 ∨ next.length ≠ fin.length ∨ s < 0 ∨ s ≥ (fin.length : Int)
  · rw [if_pos h3] at h; cases h
  rw [if_neg h3] at h
  by_cases h4 : next.all (okRow fin.length L) = true
  · refine ⟨by omega, by omega, by omega, by omega, by omega, by omega, by omega, fun row hr => ?_⟩
    have h5 := List.all_eq_true.1 h4 row hr
    simp only [okRow, Bool.and_eq_true, decide_eq_true_eq, List.all_eq_true] at h5
    exact h5
  · rw [if_neg h4] at h; cases h
theorem valE_no {L s : Int} {fin : List Bool} {next : List (List Int)} : valE L s fin next = 0 ∨ valE L s fin next = 1 ∨ valE L s fin next = 3 ∨ valE L s fin next = 4 := by
  unfold valE
  repeat' split
  all_goals simp

theorem tk_set {α : Type} {xs ys : List α} {j : Nat} (h : j < xs.length) (hl : xs.length = ys.length) : (xs.take j ++ ys.drop j).set j xs[j] = xs.take (j + 1) ++ ys.drop (j + 1) := by
  apply List.ext_getElem?
  intro i
  simp only [List.getElem?_set, List.getElem?_append, List.getElem?_take, List.getElem?_drop, List.length_take, List.length_append, List.length_drop]
  by_cases h1 : j = i
  · subst h1
    rw [if_pos rfl, if_pos (by omega), if_pos (by omega), if_pos (by omega), List.getElem?_eq_getElem h]
  · rw [if_neg h1]
    by_cases h2 : i < j
    · rw [if_pos (by omega), if_pos h2, if_pos (by omega), if_pos (by omega)]
    · rw [if_neg (by omega), if_neg (by omega)]
      congr 1
      omega
theorem tk_all {α : Type} {xs ys : List α} {j : Nat} (h : xs.length ≤ j) (hl : xs.length = ys.length) : xs.take j ++ ys.drop j = xs := by
  rw [List.take_of_length_le h, List.drop_eq_nil_of_le (by omega), List.append_nil]
theorem tk_len {α : Type} {xs ys : List α} {j : Nat} (hl : xs.length = ys.length) : (xs.take j ++ ys.drop j).length = xs.length := by
  simp only [List.length_append, List.length_take, List.length_drop]; omega

theorem rdOf_get {α : Type} (d : α) (l : List α) (i : Nat) (h : i < l.length) : rdOf d l (i : Int) = l[i] := by simp [rdOf, List.getD, h]
def eor (e : List Bool) (row : List Int) (b : Bool) : Bool := row.foldl (fun b t => b || rdOf false e t) b
/-- From which states some word of a length leads to a final one. -/
def E (fin : List Bool) (next : List (List Int)) : Nat → List Bool
  | 0 => fin
  | k + 1 => next.map (fun row => eor (E fin next k) row false)
theorem E_len {fin : List Bool} {next : List (List Int)} (h : next.length = fin.length) : ∀ k, (E fin next k).length = fin.length
  | 0 => rfl
  | k + 1 => by simp [E, h]
def El (fin : List Bool) (next : List (List Int)) (j : Nat) : List (List Bool) := (List.range j).map (E fin next)
theorem El_len (fin : List Bool) (next : List (List Int)) (j : Nat) : (El fin next j).length = j := by simp [El]
theorem El_at (fin : List Bool) (next : List (List Int)) (j k : Nat) (h : k < j) : rd_L3 (El fin next j) (k : Int) = E fin next k := by simp [rd_L3, El, List.getD, h]
theorem El_succ (fin : List Bool) (next : List (List Int)) (j : Nat) : El fin next (j + 1) = El fin next j ++ [E fin next j] := by simp [El, List.range_succ]
def colRow (f : List ByteArray → Int → Int → List ByteArray) : Nat → List Int → List ByteArray → List ByteArray
  | _, [], out => out
  | a, t :: row, out => colRow f (a + 1) row (f out (a : Int) t)
def col (fin : List Bool) (next : List (List Int)) (n : Int) : Nat → List ByteArray → List Int → Int → List ByteArray
  | 0, out, b, _ => out ++ [strOfNums b]
  | k + 1, out, b, q => colRow (fun out a t => if (out.length : Int) < n ∧ rdOf false (E fin next k) t = true then col fin next n k out (b ++ [97 + a]) t else out) 0 (rd_L1 next q) out
def wloop (fin : List Bool) (next : List (List Int)) (s n : Int) : Nat → Nat → List ByteArray → List ByteArray
  | 0, _, out => out
  | d + 1, k, out => if (out.length : Int) < n then wloop fin next s n d (k + 1) (if rdOf false (E fin next k) s = true then col fin next n k out [] s else out) else out
def wordsE (fin : List Bool) (next : List (List Int)) (s n : Int) : List ByteArray := wloop fin next s n 2049 0 []
theorem colRow_len {f : List ByteArray → Int → Int → List ByteArray} {n : Int} (hf : ∀ out a t, (out.length : Int) ≤ n → ((f out a t).length : Int) ≤ n) : ∀ (row : List Int) (a : Nat) (out : List ByteArray), (out.length : Int) ≤ n → ((colRow f a row out).length : Int) ≤ n
  | [], _, _, h => h
  | t :: row, a, out, h => colRow_len hf row (a + 1) _ (hf out _ t h)
theorem col_len (fin : List Bool) (next : List (List Int)) (n : Int) : ∀ (k : Nat) (out : List ByteArray) (b : List Int) (q : Int), (out.length : Int) < n → ((col fin next n k out b q).length : Int) ≤ n
  | 0, out, b, q, h => by show ((out ++ [strOfNums b]).length : Int) ≤ n; simp; omega
  | k + 1, out, b, q, h => by
    refine colRow_len (fun out a t ho => ?_) _ _ _ (by omega)
    by_cases hc : (out.length : Int) < n ∧ rdOf false (E fin next k) t = true
    · show (((if (out.length : Int) < n ∧ rdOf false (E fin next k) t = true then col fin next n k out (b ++ [97 + a]) t else out)).length : Int) ≤ n
      rw [if_pos hc]
      exact col_len fin next n k _ _ _ hc.1
    · show (((if (out.length : Int) < n ∧ rdOf false (E fin next k) t = true then col fin next n k out (b ++ [97 + a]) t else out)).length : Int) ≤ n
      rw [if_neg hc]
      exact ho
theorem wloop_len (fin : List Bool) (next : List (List Int)) (s n : Int) : ∀ (d k : Nat) (out : List ByteArray), (out.length : Int) ≤ n → ((wloop fin next s n d k out).length : Int) ≤ n
  | 0, _, _, h => h
  | d + 1, k, out, h => by
    unfold wloop
    split
    · rename_i h1
      refine wloop_len fin next s n d (k + 1) _ ?_
      split
      · exact col_len fin next n k _ _ _ h1
      · exact h
    · exact h
theorem set_or (row : List Bool) (q : Nat) (h : q < row.length) (e : Bool) : (if rdOf false row (q : Int) = true then row.set q true else row.set q e) = row.set q (rdOf false row (q : Int) || e) := by
  cases rdOf false row (q : Int) <;> rfl
/-- An automaton that is valid. -/
structure VA (L s : Int) (fin : List Bool) (next : List (List Int)) : Prop where
  l1 : 1 ≤ L
  l6 : L ≤ 6
  n0 : 0 < fin.length
  n5 : fin.length ≤ 512
  nl : next.length = fin.length
  s0 : 0 ≤ s
  s1 : s < (fin.length : Int)
  rw : ∀ row ∈ next, (row.length : Int) = L ∧ ∀ q ∈ row, 0 ≤ q ∧ q < (fin.length : Int)
theorem VA.of {L s : Int} {fin : List Bool} {next : List (List Int)} (h : valE L s fin next = 0) : VA L s fin next := by
  obtain ⟨v1, v2, v3, v4, v5, v6, v7, v8⟩ := valE_zero h
  exact ⟨v1, v2, v3, v4, v5, v6, v7, v8⟩

theorem str_snoc (b : List Int) (x : Int) : strOfNums (b ++ [x]) = strOfNums b ++ strOfNums [x] := by
  apply ByteArray.ext
  simp [strOfNums]
theorem dcol_l0 {L s : Int} {fin : List Bool} {next : List (List Int)} (V : VA L s fin next) (n : Int) (J m : Nat) (hm : m < J) (hJ : J ≤ 3000) (hn : n ≤ 1000) (b : List Int) (hb : b.length ≤ 3000) (row : List Int) (hl : (row.length : Int) = L) (hq : ∀ q ∈ row, 0 ≤ q ∧ q < (fin.length : Int))
    (ih : ∀ (out : List ByteArray) (b' : List Int) (q : Int), (out.length : Int) < n → b'.length = b.length + 1 → 0 ≤ q → q < (fin.length : Int) → Ev (fun k => dfa_collect.f k L s fin next (El fin next J) n out b' q (m : Int)) (col fin next n m out b' q, b')) : ∀ (d j : Nat) (out : List ByteArray), row.length - j = d → j ≤ row.length → (out.length : Int) ≤ n →
    Ev (fun k => dfa_collect.l0 k (El fin next J) n out b ((m + 1 : Nat) : Int) row (row.length : Int) (j : Int) L s fin next) (colRow (fun out a t => if (out.length : Int) < n ∧ rdOf false (E fin next m) t = true then col fin next n m out (b ++ [97 + a]) t else out) j (row.drop j) out, b) := by
  intro d
  induction d with
  | zero =>
    intro j out hd hj ho
    rw [List.drop_eq_nil_of_le (by omega)]
    exact Ev.step (fun _ => rfl) (ev_neg (by omega) (ev_some _))
  | succ d ihd =>
    intro j out hd hj ho
    have hlt : j < row.length := by omega
    have hbq := hq row[j] (List.getElem_mem hlt)
    have hl6 := V.l6
    rw [List.drop_eq_getElem_cons hlt]
    refine Ev.step (fun _ => rfl) (ev_pos (by omega) (ev_pos (by omega) (ev_pos (by omega) ?_)))
    have e1 : wrap64 (((m + 1 : Nat) : Int) - 1) = (m : Int) := by rw [wrap_in (by omega) (by omega)]; omega
    have IH := fun out' (h : (out'.length : Int) ≤ n) => ihd (j + 1) out' (by omega) (by omega) h
    rw [rd_at row j hlt, wrap_succ hlt (by omega), e1, El_at _ _ _ _ hm]
    show Ev _ (colRow _ (j + 1) (row.drop (j + 1)) (if (out.length : Int) < n ∧ rdOf false (E fin next m) row[j] = true then col fin next n m out (b ++ [97 + (j : Int)]) row[j] else out), b)
    by_cases h1 : (out.length : Int) < n
    · refine ev_pos h1 (ev_pos (by omega) (ev_pos (by rw [El_len]; omega) (ev_pos hbq.1 (ev_pos (by rw [E_len V.nl]; exact hbq.2) ?_))))
      by_cases h2 : rdOf false (E fin next m) row[j] = true
      · rw [if_pos ⟨h1, h2⟩]
        refine ev_pos h2 (ev_pos (by omega) ?_)
        rw [show (97 + (j : Int) % 256) % 256 = 97 + (j : Int) by omega]
        refine ev_bind (ih out (b ++ [97 + (j : Int)]) row[j] h1 (by simp) hbq.1 hbq.2) ?_
        exact IH _ (col_len fin next n m _ _ _ h1)
      · rw [if_neg (fun h => h2 h.2)]
        exact ev_neg h2 (IH out ho)
    · rw [if_neg (fun h => h1 h.1)]
      exact ev_neg h1 (IH out ho)
theorem dcol_ev {L s : Int} {fin : List Bool} {next : List (List Int)} (V : VA L s fin next) (n : Int) (J : Nat) (hJ : J ≤ 3000) (hn : n ≤ 1000) : ∀ (m : Nat) (out : List ByteArray) (b : List Int) (q : Int), m ≤ J → (out.length : Int) < n → b.length + m ≤ 3000 → 0 ≤ q → q < (fin.length : Int) →
    Ev (fun k => dfa_collect.f k L s fin next (El fin next J) n out b q (m : Int)) (col fin next n m out b q, b) := by
  intro m
  induction m with
  | zero =>
    intro out b q hm ho hb h0 h1
    obtain ⟨z, hz⟩ : ∃ z : Int, z = ((0 : Nat) : Int) := ⟨_, rfl⟩
    rw [← hz]
    exact Ev.step (fun _ => rfl) (ev_pos hz (ev_pos (by omega) (ev_some _)))
  | succ m ih =>
    intro out b q hm ho hb h0 h1
    obtain ⟨y, hy⟩ := Int.eq_ofNat_of_zero_le h0
    have hnl := V.nl
    have hr := V.rw next[y] (List.getElem_mem (by omega))
    obtain ⟨z, hz⟩ : ∃ z : Int, z = ((m + 1 : Nat) : Int) := ⟨_, rfl⟩
    rw [← hz]
    refine Ev.step (fun _ => rfl) (ev_neg (by omega) (ev_pos h0 (ev_pos (by omega) ?_)))
    rw [hz]
    have := dcol_l0 V n J m (by omega) hJ hn b (by omega) next[y] hr.1 hr.2 (fun out' b' q' h2 h3 h4 h5 => ih out' b' q' (by omega) h2 (by omega) h4 h5) _ 0 out rfl (by omega) (by omega)
    rw [List.drop_zero] at this
    show Ev _ (colRow _ 0 (rd_L1 next q) out, b)
    rw [hy, rdL_at next y (by omega)]
    exact this

theorem dwrd_l2 (n : Int) (out : List ByteArray) (fin : List Bool) (next : List (List Int)) (L s : Int) (ends : List (List Bool)) (k : Nat) (e : List Bool) (he : rd_L3 ends (k : Int) = e) (hk : k < ends.length) (hk' : k ≤ 3000) (q : Nat) (xl xi : Int) (tos : List Int) (hl : tos.length ≤ 6) (hq : ∀ t ∈ tos, 0 ≤ t ∧ t < (e.length : Int)) (r : List ByteArray) : ∀ (d j : Nat) (row : List Bool), tos.length - j = d → j ≤ tos.length → q < row.length →
    Ev (fun K => dfa_Words.l1 K n out ends ((k + 1 : Nat) : Int) (row.set q (eor e (tos.drop j) (rdOf false row (q : Int)))) xl (wrap64 (xi + 1)) L s fin next) r →
    Ev (fun K => dfa_Words.l2 K n out ends ((k + 1 : Nat) : Int) row (q : Int) xl xi tos (tos.length : Int) (j : Int) L s fin next) r := by
  intro d
  induction d with
  | zero =>
    intro j row hd hj hr h
    rw [List.drop_eq_nil_of_le (by omega)] at h
    have : row.set q (eor e [] (rdOf false row (q : Int))) = row := by
      show row.set q (rdOf false row (q : Int)) = row
      rw [rdOf_get false row q hr, List.set_getElem_self]
    rw [this] at h
    exact Ev.step (fun _ => rfl) (ev_neg (by omega) h)
  | succ d ih =>
    intro j row hd hj hr h
    have hlt : j < tos.length := by omega
    have hb := hq tos[j] (List.getElem_mem hlt)
    rw [List.drop_eq_getElem_cons hlt] at h
    have e1 : wrap64 (((k + 1 : Nat) : Int) - 1) = (k : Int) := by rw [wrap_in (by omega) (by omega)]; omega
    refine Ev.step (fun _ => rfl) (ev_pos (by omega) (ev_pos (by omega) (ev_pos (by omega) (ev_pos (by omega) (ev_pos (by omega) ?_)))))
    rw [rd_at tos j hlt, wrap_succ hlt (by omega), e1, he, Int.toNat_natCast]
    have IH := fun v (hv : v = (rdOf false row (q : Int) || rdOf false e tos[j])) => ih (j + 1) (row.set q v) (by omega) (by omega) (by simpa using hr) (by
      rw [rdOf_get false (row.set q v) q (by simpa using hr), List.getElem_set_self, List.set_set, hv]
      exact h)
    by_cases h1 : rdOf false row (q : Int) = true
    · exact ev_pos h1 (IH true (by rw [h1]; rfl))
    · refine ev_neg h1 (ev_pos (by omega) (ev_pos (by omega) (ev_pos hb.1 (ev_pos hb.2 (IH _ ?_)))))
      rw [Bool.not_eq_true] at h1
      rw [h1]; rfl
theorem dwrd_l1 {L s : Int} {fin : List Bool} {next : List (List Int)} (V : VA L s fin next) (n : Int) (out : List ByteArray) (k : Nat) (hk : k ≤ 2999) (r : List ByteArray)
    (h : Ev (fun K => dfa_Words.j5 K n out (El fin next (k + 2)) ((k + 1 : Nat) : Int) L s fin next) r) : ∀ (d i : Nat), fin.length - i = d → i ≤ fin.length →
    Ev (fun K => dfa_Words.l1 K n out (El fin next (k + 1)) ((k + 1 : Nat) : Int) ((E fin next (k + 1)).take i ++ (List.replicate fin.length false).drop i) (fin.length : Int) (i : Int) L s fin next) r := by
  have hE := E_len (fin := fin) V.nl
  have hlen : ∀ i, ((E fin next (k + 1)).take i ++ (List.replicate fin.length false).drop i).length = fin.length := fun i => by rw [tk_len (by simp [hE])]; exact hE _
  intro d
  induction d with
  | zero =>
    intro i hd hi
    refine Ev.step (fun _ => rfl) (ev_neg (by omega) (ev_pos (by rw [El_len]; omega) ?_))
    rw [tk_all (by rw [hE]; omega) (by simp [hE]), ← El_succ]
    exact h
  | succ d ih =>
    intro i hd hi
    have hl := hlen i
    have hnl := V.nl
    have hn5 := V.n5
    have hlt : i < fin.length := by omega
    have hr := V.rw next[i] (List.getElem_mem (by omega))
    refine Ev.step (fun _ => rfl) (ev_pos (by omega) (ev_pos (by omega) (ev_pos (by omega) ?_)))
    rw [rdL_at next i (by omega)]
    refine dwrd_l2 n out fin next L s (El fin next (k + 1)) k (E fin next k) (El_at _ _ _ _ (by omega)) (by rw [El_len]; omega) (by omega) i _ _ next[i] (by have := V.l6; omega) (by rw [hE]; exact hr.2) r _ 0 _ rfl (by omega) (by omega) ?_
    have e0 : rdOf false ((E fin next (k + 1)).take i ++ (List.replicate fin.length false).drop i) (i : Int) = false := by
      rw [rdOf_get _ _ i (by omega), List.getElem_append_right (by simp; omega)]
      simp
    have e1 : eor (E fin next k) next[i] false = (E fin next (k + 1))[i]'(by rw [hE]; omega) := by simp [E]
    rw [List.drop_zero, e0, e1, tk_set (by rw [hE]; omega) (by simp [hE]), wrap_succ hlt (by omega)]
    exact ih (i + 1) (by omega) (by omega)
theorem dwrd_j5 {L s : Int} {fin : List Bool} {next : List (List Int)} (V : VA L s fin next) (n : Int) (hn : n ≤ 1000) (out : List ByteArray) (k : Nat) (hk : k ≤ 2048) (ho : (out.length : Int) < n) (r : List ByteArray)
    (h : Ev (fun K => dfa_Words.l0 K n (if rdOf false (E fin next k) s = true then col fin next n k out [] s else out) (El fin next (k + 1)) ((k + 1 : Nat) : Int) L s fin next) r) :
    Ev (fun K => dfa_Words.j5 K n out (El fin next (k + 1)) (k : Int) L s fin next) r := by
  have hE := E_len (fin := fin) V.nl
  have hs := V.s1
  refine Ev.step (fun _ => rfl) (ev_pos (by rw [El_len]; omega) (ev_pos V.s0 ?_))
  rw [El_at _ _ _ _ (by omega), wrap_succ (show k < 2049 by omega) (by omega)]
  refine ev_pos (by rw [hE]; exact hs) ?_
  by_cases h1 : rdOf false (E fin next k) s = true
  · rw [if_pos h1] at h
    exact ev_pos h1 (ev_pos (by omega) (ev_bind (dcol_ev V n (k + 1) (by omega) hn k out [] s (by omega) ho (by simp; omega) V.s0 hs) h))
  · rw [if_neg h1] at h
    exact ev_neg h1 h
theorem dwrd_l0 {L s : Int} {fin : List Bool} {next : List (List Int)} (V : VA L s fin next) (n : Int) (hn : n ≤ 1000) : ∀ (d k : Nat) (out : List ByteArray), 2049 - k = d → k ≤ 2049 →
    Ev (fun K => dfa_Words.l0 K n out (El fin next (if k = 0 then 1 else k)) (k : Int) L s fin next) (wloop fin next s n d k out) := by
  intro d
  have J2 : ∀ (b : Bool) (ends : List (List Bool)) (x : Int) (out : List ByteArray), b = false → Ev (fun K => dfa_Words.j2 K n out ends x b L s fin next) out := fun b ends x out e => Ev.step (fun _ => rfl) (ev_neg (by simp [e]) (ev_some _))
  induction d with
  | zero =>
    intro k out hd hk
    refine Ev.step (fun _ => rfl) ?_
    by_cases h1 : (out.length : Int) < n
    · exact ev_pos h1 (J2 _ _ _ _ (decide_eq_false (by omega)))
    · exact ev_neg h1 (J2 _ _ _ _ rfl)
  | succ d ih =>
    intro k out hd hk
    refine Ev.step (fun _ => rfl) ?_
    unfold wloop
    by_cases h1 : (out.length : Int) < n
    · rw [if_pos h1]
      refine ev_pos h1 ?_
      have IH := ih (k + 1) (if rdOf false (E fin next k) s = true then col fin next n k out [] s else out) (by omega) (by omega)
      rw [if_neg (show ¬ (k + 1 = 0) by omega)] at IH
      have H5 := dwrd_j5 V n hn out k (by omega) h1 _ IH
      have K2 : ∀ b : Bool, b = true → Ev (fun K => dfa_Words.j2 K n out (El fin next (if k = 0 then 1 else k)) (k : Int) b L s fin next) (wloop fin next s n d (k + 1) (if rdOf false (E fin next k) s = true then col fin next n k out [] s else out)) := by
        intro b e
        refine Ev.step (fun _ => rfl) (ev_pos e ?_)
        cases k with
        | zero =>
          refine ev_neg (by omega) ?_
          exact H5
        | succ k =>
          have hn5 := V.n5
          refine ev_pos (by omega) (ev_pos (by omega) (ev_pos (by omega) (ev_bind0 rfl ?_)))
          rw [if_neg (show ¬ (k + 1 = 0) by omega)]
          have := dwrd_l1 V n out k (by omega) _ H5 _ 0 rfl (by omega)
          rw [List.take_zero, List.drop_zero, List.nil_append] at this
          rw [List.length_replicate]
          exact this
      exact K2 _ (decide_eq_true (by omega))
    · rw [if_neg h1]
      exact ev_neg h1 (J2 _ _ _ _ rfl)
theorem dWords_ev (L s : Int) (fin : List Bool) (next : List (List Int)) (n : Int) : Ev (fun k => dfa_Words.f k L s fin next n) (if valE L s fin next = 0 ∧ 0 ≤ n ∧ n ≤ 200 then wordsE fin next s n else []) := by
  have J : ∀ b : Bool, b = true → Ev (fun k => dfa_Words.j0 k n b L s fin next) [] := fun b e => Ev.step (fun _ => rfl) (ev_pos e (ev_some _))
  refine ev_bind (dval_ev _ _ _ _) ?_
  by_cases hv : valE L s fin next = 0
  · refine ev_pos hv ?_
    have V := VA.of hv
    by_cases h1 : n < 0
    · rw [if_neg (by omega)]
      exact ev_pos h1 (J true rfl)
    · refine ev_neg h1 ?_
      by_cases h2 : n > 200
      · rw [if_neg (by omega)]
        exact J _ (decide_eq_true h2)
      · rw [if_pos ⟨hv, by omega, by omega⟩]
        have K : ∀ b : Bool, b = false → Ev (fun k => dfa_Words.j0 k n b L s fin next) (wordsE fin next s n) := by
          intro b e
          have hn5 := V.n5
          refine Ev.step (fun _ => rfl) (ev_neg (by simp [e]) (ev_bind0 rfl (ev_pos (by simp; omega) ?_)))
          exact dwrd_l0 V n (by omega) 2049 0 [] rfl (by omega)
        exact K _ (decide_eq_false h2)
  · rw [if_neg (fun h => hv h.1)]
    exact ev_neg hv (J true rfl)

def emitE (fin : List Bool) (next : List (List Int)) (n : Int) (m : Nat) (out : List ByteArray) (b : List Int) (q : Int) : List ByteArray :=
  if (out.length : Int) < n ∧ rdOf false (E fin next m) q = true then col fin next n m out b q else out
theorem emitE_len (fin : List Bool) (next : List (List Int)) (n : Int) (m : Nat) (out : List ByteArray) (b : List Int) (q : Int) (h : (out.length : Int) ≤ n) : ((emitE fin next n m out b q).length : Int) ≤ n := by
  unfold emitE
  split
  · rename_i hc; exact col_len fin next n m _ _ _ hc.1
  · exact h
theorem str_size (b : List Int) : (strOfNums b).size = b.length := by
  show (List.map (fun n : Int => UInt8.ofNat n.toNat) b).toArray.size = b.length
  simp
theorem ltr_wrap {j : Nat} (h : j < 6) : wrap64 (97 + (j : Int)) % 256 = 97 + (j : Int) := by rw [wrap_in (by omega) (by omega)]; omega
theorem pred_wrap {m : Nat} (h : m ≤ 3000) : wrap64 (((m + 1 : Nat) : Int) - 1) = (m : Int) := by rw [wrap_in (by omega) (by omega)]; omega
theorem remit_l0 {L s : Int} {fin : List Bool} {next : List (List Int)} (V : VA L s fin next) (n : Int) (J m : Nat) (hm : m ≤ 3000) (b : List Int) (hb : b.length ≤ 3000) (x2 : Int) (row : List Int) (hx0 : 0 ≤ x2) (hx1 : x2 < (fin.length : Int)) (hrow : rd_L1 next x2 = row) (hl : (row.length : Int) = L) (hq : ∀ q ∈ row, 0 ≤ q ∧ q < (fin.length : Int))
    (ih : ∀ (out : List ByteArray) (b' : List Int) (q : Int), (out.length : Int) ≤ n → b'.length = b.length + 1 → 0 ≤ q → q < (fin.length : Int) → Ev (fun k => semigroupref07_emit.f k L s fin next (El fin next J) q (m : Int) (strOfNums b') n out) (emitE fin next n m out b' q)) : ∀ (d j : Nat) (out : List ByteArray), row.length - j = d → j ≤ row.length → (out.length : Int) ≤ n →
    Ev (fun k => semigroupref07_emit.l0 k (El fin next J) x2 ((m + 1 : Nat) : Int) (strOfNums b) n out (j : Int) L s fin next) (colRow (fun out a t => if (out.length : Int) < n ∧ rdOf false (E fin next m) t = true then col fin next n m out (b ++ [97 + a]) t else out) j (row.drop j) out) := by
  intro d
  induction d with
  | zero =>
    intro j out hd hj ho
    rw [List.drop_eq_nil_of_le (by omega)]
    refine Ev.step (fun _ => by rw [semigroupref07_emit.l0]) ?_
    exact ev_neg (by omega) (ev_some _)
  | succ d ihd =>
    intro j out hd hj ho
    have hlt : j < row.length := by omega
    have hbq := hq row[j] (List.getElem_mem hlt)
    have hl6 := V.l6
    have hnl := V.nl
    have hj5 : j < 6 := by omega
    have hrl : row.length ≤ 140737488355328 := by omega
    rw [List.drop_eq_getElem_cons hlt]
    refine Ev.step (fun _ => by rw [semigroupref07_emit.l0]) ?_
    refine ev_pos (by omega) ?_
    refine ev_pos hx0 ?_
    refine ev_pos (by omega) ?_
    refine ev_pos (by omega) ?_
    have hj6 : (j : Int) < row.length := by omega
    rw [hrow, pred_wrap hm, ltr_wrap hj5, wrap_succ hlt hrl, rd_at row j hlt]
    have hj7 := hj6
    have hsz : (strOfNums b).size + (strOfNums [97 + (j : Int)]).size ≤ 9223372036854775807 := by
      rw [str_size, str_size, List.length_singleton]
      exact Nat.le_trans (Nat.succ_le_succ hb) (by decide)
    refine ev_pos hj7 ?_
    refine ev_bind0 (a := [97 + (j : Int)]) rfl ?_
    refine ev_pos hsz ?_
    · rw [← str_snoc]
      refine ev_bind (ih out (b ++ [97 + (j : Int)]) row[j] ho (by simp) hbq.1 hbq.2) ?_
      exact ihd (j + 1) _ (by omega) (by omega) (emitE_len _ _ _ _ _ _ _ ho)
theorem remit_ev {L s : Int} {fin : List Bool} {next : List (List Int)} (V : VA L s fin next) (n : Int) (J : Nat) (hJ : J ≤ 3000) (hn : n ≤ 1000) : ∀ (m : Nat) (out : List ByteArray) (b : List Int) (q : Int), m < J → (out.length : Int) ≤ n → b.length + m ≤ 3000 → 0 ≤ q → q < (fin.length : Int) →
    Ev (fun k => semigroupref07_emit.f k L s fin next (El fin next J) q (m : Int) (strOfNums b) n out) (emitE fin next n m out b q) := by
  intro m
  induction m with
  | zero =>
    intro out b q hm ho hb h0 h1
    have hE := E_len (fin := fin) V.nl
    obtain ⟨z, hz⟩ : ∃ z : Int, z = ((0 : Nat) : Int) := ⟨_, rfl⟩
    have J0 : ∀ (c : Bool) (r : List ByteArray), (c = true → r = out) → (c = false → r = out ++ [strOfNums b] ∧ (out.length : Int) < n) → Ev (fun k => semigroupref07_emit.j0 k (El fin next J) q z (strOfNums b) n out c L s fin next) r := by
      intro c r e1 e2
      refine Ev.step (fun _ => rfl) ?_
      by_cases hc : c = true
      · exact ev_pos hc (ev_eq (ev_some _) (e1 hc).symm)
      · have h2 := e2 (by simpa using hc)
        exact ev_neg hc (ev_pos hz (ev_pos (by omega) (ev_eq (ev_some _) h2.1.symm)))
    rw [← hz]
    refine Ev.step (fun _ => rfl) ?_
    unfold emitE
    by_cases h2 : (out.length : Int) ≥ n
    · rw [if_neg (by omega)]
      exact ev_pos h2 (J0 true out (fun _ => rfl) (fun h => by cases h))
    · refine ev_neg h2 (ev_pos (by omega) (ev_pos (by rw [El_len]; omega) (ev_pos h0 ?_)))
      rw [hz, El_at _ _ _ _ hm, ← hz]
      refine ev_pos (by rw [hE]; exact h1) (J0 _ _ ?_ ?_)
      · intro h; rw [if_neg]; rintro ⟨_, h'⟩; rw [h'] at h; cases h
      · intro h
        rw [Bool.not_eq_false'] at h
        rw [if_pos ⟨by omega, h⟩]
        exact ⟨rfl, by omega⟩
  | succ m ih =>
    intro out b q hm ho hb h0 h1
    have hE := E_len (fin := fin) V.nl
    have hnl := V.nl
    obtain ⟨z, hz⟩ : ∃ z : Int, z = ((m + 1 : Nat) : Int) := ⟨_, rfl⟩
    have J0 : ∀ (c : Bool) (r : List ByteArray), (c = true → r = out) → (c = false → r = col fin next n (m + 1) out b q ∧ (out.length : Int) < n) → Ev (fun k => semigroupref07_emit.j0 k (El fin next J) q z (strOfNums b) n out c L s fin next) r := by
      intro c r e1 e2
      refine Ev.step (fun _ => rfl) ?_
      by_cases hc : c = true
      · exact ev_pos hc (ev_eq (ev_some _) (e1 hc).symm)
      · have e3 := e2 (by simpa using hc)
        refine ev_neg hc (ev_neg (by omega) ?_)
        rw [e3.1, hz]
        obtain ⟨y, hy⟩ := Int.eq_ofNat_of_zero_le h0
        have hr := V.rw next[y] (List.getElem_mem (by omega))
        have := remit_l0 V n J m (by omega) b (by omega) q next[y] h0 h1 (by subst hy; exact rdL_at next y (by omega)) hr.1 hr.2 (fun out' b' q' h2 h3 h4 h5 => ih out' b' q' (by omega) h2 (by omega) h4 h5) _ 0 out rfl (by omega) (by omega)
        rw [List.drop_zero] at this
        show Ev _ (colRow _ 0 (rd_L1 next q) out)
        rw [hy, rdL_at next y (by omega), ← hy]
        exact this
    rw [← hz]
    refine Ev.step (fun _ => rfl) ?_
    unfold emitE
    by_cases h2 : (out.length : Int) ≥ n
    · rw [if_neg (by omega)]
      exact ev_pos h2 (J0 true out (fun _ => rfl) (fun h => by cases h))
    · refine ev_neg h2 (ev_pos (by omega) (ev_pos (by rw [El_len]; omega) (ev_pos h0 ?_)))
      rw [hz, El_at _ _ _ _ hm, ← hz]
      refine ev_pos (by rw [hE]; exact h1) (J0 _ _ ?_ ?_)
      · intro h; rw [if_neg]; rintro ⟨_, h'⟩; rw [h'] at h; cases h
      · intro h
        rw [Bool.not_eq_false'] at h
        rw [if_pos ⟨by omega, h⟩]
        exact ⟨rfl, by omega⟩
theorem rwrd_l2 (n : Int) (out : List ByteArray) (fin : List Bool) (next : List (List Int)) (L s : Int) (ends : List (List Bool)) (k : Nat) (e : List Bool) (he : rd_L3 ends (k : Int) = e) (hk : k < ends.length) (hk' : k ≤ 3000) (q : Nat) (xl xi : Int) (tos : List Int) (hl : tos.length ≤ 6) (hq : ∀ t ∈ tos, 0 ≤ t ∧ t < (e.length : Int)) (r : List ByteArray) : ∀ (d j : Nat) (row : List Bool), tos.length - j = d → j ≤ tos.length → q < row.length →
    Ev (fun K => semigroupref07_Words.l1 K n out ends (k : Int) (row.set q (eor e (tos.drop j) (rdOf false row (q : Int)))) xl (wrap64 (xi + 1)) L s fin next) r →
    Ev (fun K => semigroupref07_Words.l2 K n out ends (k : Int) row (q : Int) xl xi tos (tos.length : Int) (j : Int) L s fin next) r := by
  intro d
  induction d with
  | zero =>
    intro j row hd hj hr h
    rw [List.drop_eq_nil_of_le (by omega)] at h
    have : row.set q (eor e [] (rdOf false row (q : Int))) = row := by
      show row.set q (rdOf false row (q : Int)) = row
      rw [rdOf_get false row q hr, List.set_getElem_self]
    rw [this] at h
    exact Ev.step (fun _ => rfl) (ev_neg (by omega) h)
  | succ d ih =>
    intro j row hd hj hr h
    have hlt : j < tos.length := by omega
    have hb := hq tos[j] (List.getElem_mem hlt)
    rw [List.drop_eq_getElem_cons hlt] at h
    refine Ev.step (fun _ => rfl) (ev_pos (by omega) (ev_pos (by omega) (ev_pos (by omega) (ev_pos (by omega) (ev_pos (by omega) ?_)))))
    rw [rd_at tos j hlt, wrap_succ hlt (by omega), he, Int.toNat_natCast]
    have IH := fun v (hv : v = (rdOf false row (q : Int) || rdOf false e tos[j])) => ih (j + 1) (row.set q v) (by omega) (by omega) (by simpa using hr) (by
      rw [rdOf_get false (row.set q v) q (by simpa using hr), List.getElem_set_self, List.set_set, hv]
      exact h)
    by_cases h1 : rdOf false row (q : Int) = true
    · exact ev_pos h1 (IH true (by rw [h1]; rfl))
    · refine ev_neg h1 (ev_pos (by omega) (ev_pos (by omega) (ev_pos hb.1 (ev_pos hb.2 (IH _ ?_)))))
      rw [Bool.not_eq_true] at h1
      rw [h1]; rfl
theorem rwrd_l1 {L s : Int} {fin : List Bool} {next : List (List Int)} (V : VA L s fin next) (n : Int) (out : List ByteArray) (k : Nat) (hk : k ≤ 2999) (r : List ByteArray)
    (h : Ev (fun K => semigroupref07_Words.l0 K n out (El fin next (k + 2)) ((k + 1 : Nat) : Int) L s fin next) r) : ∀ (d i : Nat), fin.length - i = d → i ≤ fin.length →
    Ev (fun K => semigroupref07_Words.l1 K n out (El fin next (k + 1)) (k : Int) ((E fin next (k + 1)).take i ++ (List.replicate fin.length false).drop i) (fin.length : Int) (i : Int) L s fin next) r := by
  have hE := E_len (fin := fin) V.nl
  have hlen : ∀ i, ((E fin next (k + 1)).take i ++ (List.replicate fin.length false).drop i).length = fin.length := fun i => by rw [tk_len (by simp [hE])]; exact hE _
  intro d
  induction d with
  | zero =>
    intro i hd hi
    refine Ev.step (fun _ => rfl) (ev_neg (by omega) (ev_pos (by rw [El_len]; omega) ?_))
    rw [tk_all (by rw [hE]; omega) (by simp [hE]), ← El_succ, wrap_succ (show k < 3000 by omega) (by omega)]
    exact h
  | succ d ih =>
    intro i hd hi
    have hl := hlen i
    have hnl := V.nl
    have hn5 := V.n5
    have hlt : i < fin.length := by omega
    have hr := V.rw next[i] (List.getElem_mem (by omega))
    refine Ev.step (fun _ => rfl) (ev_pos (by omega) (ev_pos (by omega) (ev_pos (by omega) ?_)))
    rw [rdL_at next i (by omega)]
    refine rwrd_l2 n out fin next L s (El fin next (k + 1)) k (E fin next k) (El_at _ _ _ _ (by omega)) (by rw [El_len]; omega) (by omega) i _ _ next[i] (by have := V.l6; omega) (by rw [hE]; exact hr.2) r _ 0 _ rfl (by omega) (by omega) ?_
    have e0 : rdOf false ((E fin next (k + 1)).take i ++ (List.replicate fin.length false).drop i) (i : Int) = false := by
      rw [rdOf_get _ _ i (by omega), List.getElem_append_right (by simp; omega)]
      simp
    have e1 : eor (E fin next k) next[i] false = (E fin next (k + 1))[i]'(by rw [hE]; omega) := by simp [E]
    rw [List.drop_zero, e0, e1, tk_set (by rw [hE]; omega) (by simp [hE]), wrap_succ hlt (by omega)]
    exact ih (i + 1) (by omega) (by omega)
theorem rwrd_l0 {L s : Int} {fin : List Bool} {next : List (List Int)} (V : VA L s fin next) (n : Int) (hn : n ≤ 1000) : ∀ (d k : Nat) (out : List ByteArray), 2049 - k = d → k ≤ 2049 → (out.length : Int) ≤ n →
    Ev (fun K => semigroupref07_Words.l0 K n out (El fin next (k + 1)) (k : Int) L s fin next) (wloop fin next s n d k out) := by
  intro d
  have J1 : ∀ (b : Bool) (ends : List (List Bool)) (x : Int) (out : List ByteArray), b = false → Ev (fun K => semigroupref07_Words.j1 K n out ends x b L s fin next) out := fun b ends x out e => Ev.step (fun _ => rfl) (ev_neg (by simp [e]) (ev_some _))
  induction d with
  | zero =>
    intro k out hd hk ho
    exact Ev.step (fun _ => rfl) (ev_neg (by omega) (J1 _ _ _ _ rfl))
  | succ d ih =>
    intro k out hd hk ho
    refine Ev.step (fun _ => rfl) (ev_pos (by omega) ?_)
    unfold wloop
    by_cases h1 : (out.length : Int) < n
    · rw [if_pos h1]
      have hl := emitE_len fin next n k out [] s ho
      have IH := ih (k + 1) (emitE fin next n k out [] s) (by omega) (by omega) hl
      have e : emitE fin next n k out [] s = if rdOf false (E fin next k) s = true then col fin next n k out [] s else out := by
        unfold emitE
        simp only [h1, true_and]
      have K1 : ∀ b : Bool, b = true → Ev (fun K => semigroupref07_Words.j1 K n out (El fin next (k + 1)) (k : Int) b L s fin next) (wloop fin next s n d (k + 1) (if rdOf false (E fin next k) s = true then col fin next n k out [] s else out)) := by
        intro b eb
        have hn5 := V.n5
        refine Ev.step (fun _ => rfl) (ev_pos eb (ev_bind (a := emitE fin next n k out [] s) (remit_ev V n (k + 1) (by omega) hn k out [] s (by omega) ho (by simp; omega) V.s0 V.s1) (ev_pos (by omega) (ev_pos (by omega) (ev_bind0 rfl ?_)))))
        rw [← e]
        have := rwrd_l1 V n (emitE fin next n k out [] s) k (by omega) _ IH _ 0 rfl (by omega)
        rw [List.take_zero, List.drop_zero, List.nil_append] at this
        rw [List.length_replicate]
        exact this
      exact K1 _ (decide_eq_true h1)
    · rw [if_neg h1]
      exact J1 _ _ _ _ (decide_eq_false h1)
theorem rWords_ev {L s : Int} {fin : List Bool} {next : List (List Int)} (V : VA L s fin next) (n : Int) (h0 : 0 ≤ n) (hn : n ≤ 1000) : Ev (fun k => semigroupref07_Words.f k L s fin next n) (wordsE fin next s n) :=
  rwrd_l0 V n hn 2049 0 [] rfl (by omega) h0

theorem same1_l0 (a : List ByteArray) (hn : a.length ≤ 1000000) : ∀ (d i : Nat), a.length - i = d → i ≤ a.length → Ev (fun k => semigroupref01_Same.l0 k a a (a.length : Int) (i : Int)) true := by
  intro d
  induction d with
  | zero =>
    intro i hd hi
    exact Ev.step (fun _ => rfl) (ev_neg (by omega) (ev_some true))
  | succ d ih =>
    intro i hd hi
    have hlt : i < a.length := by omega
    refine Ev.step (fun _ => rfl) (ev_pos (by omega) (ev_pos (by omega) (ev_pos (by omega) (ev_pos (by omega) (ev_pos rfl ?_)))))
    rw [wrap_succ hlt (by omega)]
    exact ih (i + 1) (by omega) (by omega)
theorem same1_refl (a : List ByteArray) (hn : a.length ≤ 1000000) : Ev (fun k => semigroupref01_Same.f k a a) true := ev_pos rfl (same1_l0 a hn _ 0 rfl (by omega))

theorem DfaLists : semigrouplaw07_DfaLists.Pure := by
  intro x n hx hn
  have A : Ev (fun k => (semigrouplaw07_awake.f k).bind fun t => some t) true := ev_bind awake_ev (ev_some true)
  have J1 : ∀ b : Bool, (b = false → valE x.f0 x.f1 x.f2 x.f3 = 0 ∧ 0 ≤ n ∧ n ≤ 200) → Ev (fun k => semigrouplaw07_DfaLists.j1 k n b x.f0 x.f1 x.f2 x.f3) true := by
    intro b h
    refine Ev.step (fun _ => rfl) ?_
    by_cases hb : b = true
    · exact ev_pos hb A
    · obtain ⟨h1, h2, h3⟩ := h (by simpa using hb)
      refine ev_neg hb (ev_bind (dWords_ev _ _ _ _ n) ?_)
      rw [if_pos ⟨h1, h2, h3⟩]
      have hl := wloop_len x.f2 x.f3 x.f1 n 2049 0 [] h2
      exact ev_bind (rWords_ev (VA.of h1) n h2 (by omega)) (ev_bind (same1_refl _ (by unfold wordsE; omega)) (ev_pos rfl A))
  have J0 : ∀ b : Bool, (b = true → ¬ (valE x.f0 x.f1 x.f2 x.f3 = 0 ∧ 0 ≤ n ∧ n ≤ 200)) → (b = false → valE x.f0 x.f1 x.f2 x.f3 = 0 ∧ 0 ≤ n ∧ n ≤ 200) → Ev (fun k => semigrouplaw07_DfaLists.j0 k n b x.f0 x.f1 x.f2 x.f3) true := by
    intro b h h'
    refine Ev.step (fun _ => rfl) ?_
    by_cases hb : b = true
    · refine ev_pos hb (ev_bind (dWords_ev _ _ _ _ n) ?_)
      rw [if_neg (h hb)]
      exact ev_pos rfl A
    · refine ev_neg hb ?_
      by_cases h3 : (x.f2.length : Int) > 8
      · exact ev_pos h3 (J1 true (fun h => by cases h))
      · exact ev_neg h3 (J1 _ (fun _ => h' (by simpa using hb)))
  refine Ev.rounds ?_
  by_cases h1 : n < 0
  · exact ev_pos h1 (J0 true (fun _ h => by omega) (fun h => by cases h))
  refine ev_neg h1 ?_
  by_cases h2 : n > 200
  · exact ev_pos h2 (J0 true (fun _ h => by omega) (fun h => by cases h))
  refine ev_neg h2 (ev_bind (valid_ev _ _ _ _) (J0 _ (fun h hc => ?_) (fun h => ?_)))
  · rw [hc.1] at h; cases h
  · rw [Bool.not_eq_false', beq_iff_eq] at h
    exact ⟨h, by omega, by omega⟩

end Go.Proofs.Ytpjbmgoagehjkaa.Pure
