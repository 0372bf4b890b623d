/- Two ways to tell which automata are valid agree, and the first words with an odd number of a are as they should be. -/
import Derived.Test.YtpjbmgoagehjkaaQDfaValidates
namespace Go.Proofs.Ytpjbmgoagehjkaa.Pure
open Go.RowKit Go.Proofs.Ytpjbmgoagehjkaa.PDfaValidates Go.Proofs.YtpjbmgoagehjkaaW.PrintWords Go.Proofs.YtpjbmgoagehjkaaW.PrintLast Go.Proofs.YtpjbmgoagehjkaaH
set_option linter.unusedVariables false
set_option linter.unusedSimpArgs false

theorem ev_mono {α : Type} {f : Nat → Option α} {r : α} (K : Nat) (hm : ∀ k, LeO (f k) (f (k + 1))) (h : f K = some r) : Ev f r := by
  refine ⟨K, fun n hn => ?_⟩
  induction n with
  | zero => rw [show K = 0 from by omega] at h; exact h
  | succ n ih =>
    by_cases e : K = n + 1
    · rw [← e]; exact h
    · exact hm n _ (ih (by omega))

theorem words_odd : Ev (fun k => dfa_Words.f k 2 0 [false, true] [[1, 0], [0, 1]] 3) [⟨#[97]⟩, ⟨#[97, 98]⟩, ⟨#[98, 97]⟩] := by
  refine ev_mono 40 (fun k => dfa_Words.mono _ _ _ _ _ k) ?_
  kernel_rfl
theorem awake_ev : Ev (fun k => semigrouplaw07_awake.f k) true := by
  refine ev_bind0 rfl (ev_bind words_odd (ev_bind ?_ (ev_some true)))
  refine ev_mono 10 (fun k => semigroupref01_Same.mono _ _ k) ?_
  kernel_rfl

/-- A row of a valid automaton with n states and L letters. -/
def okRow (n L : Int) (row : List Int) : Bool := decide ((row.length : Int) = L) && row.all (fun q => decide (0 ≤ q ∧ q < n))
/-- What is wrong with an automaton. -/
def valE (L s : Int) (fin : List Bool) (next : List (List Int)) : Int :=
  if L < 1 ∨ L > 6 then 1 else if fin.length > 512 then 3 else if fin.length = 0 ∨ next.length ≠ fin.length ∨ s < 0 ∨ s ≥ (fin.length : Int) then 4
  else if next.all (okRow fin.length L) then 0 else 4
theorem rdL_at (l : List (List Int)) (i : Nat) (h : i < l.length) : rd_L1 l (i : Int) = l[i] := by simp [rd_L1, List.getD, h]
theorem dval_l1 (n L s : Int) (fin : List Bool) (next rows : List (List Int)) (len i : Int) (row : List Int) (hn : row.length ≤ 1000) (r : Int) : ∀ (d j : Nat), row.length - j = d → j ≤ row.length →
    ((row.drop j).all (fun q => decide (0 ≤ q ∧ q < n)) = true → Ev (fun k => dfa_Validate.l0 k n rows len (wrap64 (i + 1)) L s fin next) r) →
    (¬ (row.drop j).all (fun q => decide (0 ≤ q ∧ q < n)) = true → r = 4) →
    Ev (fun k => dfa_Validate.l1 k n rows len i row (row.length : Int) (j : Int) L s fin next) r := by
  intro d
  induction d with
  | zero =>
    intro j hd hj h h'
    exact Ev.step (fun _ => rfl) (ev_neg (by omega) (h (by rw [List.drop_eq_nil_of_le (by omega)]; rfl)))
  | succ d ih =>
    intro j hd hj h h'
    have hlt : j < row.length := by omega
    rw [List.drop_eq_getElem_cons hlt, List.all_cons] at h h'
    refine Ev.step (fun _ => rfl) (ev_pos (by omega) (ev_pos (by omega) (ev_pos (by omega) ?_)))
    rw [rd_at row j hlt]
    by_cases h1 : row[j] < 0
    · exact ev_pos h1 (ev_eq (ev_some 4) (h' (by rw [decide_eq_false (by omega)]; simp)).symm)
    · refine ev_neg h1 ?_
      by_cases h2 : row[j] ≥ n
      · exact ev_pos h2 (ev_eq (ev_some 4) (h' (by rw [decide_eq_false (by omega)]; simp)).symm)
      · refine ev_neg h2 ?_
        rw [wrap_succ hlt (by omega)]
        rw [decide_eq_true (show 0 ≤ row[j] ∧ row[j] < n by omega), Bool.true_and] at h h'
        exact ih (j + 1) (by omega) (by omega) h h'
theorem dval_l0 (n L s : Int) (hL : 0 ≤ L ∧ L ≤ 6) (fin : List Bool) (next rows : List (List Int)) (hr : rows.length ≤ 1000) : ∀ (d i : Nat), rows.length - i = d → i ≤ rows.length →
    Ev (fun k => dfa_Validate.l0 k n rows (rows.length : Int) (i : Int) L s fin next) (if (rows.drop i).all (okRow n L) then 0 else 4) := by
  intro d
  induction d with
  | zero =>
    intro i hd hi
    exact Ev.step (fun _ => rfl) (ev_neg (by omega) (ev_eq (ev_some 0) (by rw [List.drop_eq_nil_of_le (by omega)]; rfl)))
  | succ d ih =>
    intro i hd hi
    have hlt : i < rows.length := by omega
    rw [List.drop_eq_getElem_cons hlt, List.all_cons]
    refine Ev.step (fun _ => rfl) (ev_pos (by omega) (ev_pos (by omega) (ev_pos (by omega) ?_)))
    rw [rdL_at rows i hlt]
    by_cases h1 : (rows[i].length : Int) = L
    · refine ev_pos h1 (dval_l1 n L s fin next rows _ i rows[i] (by omega) _ _ 0 rfl (by omega) (fun h => ?_) (fun h => ?_))
      · rw [List.drop_zero] at h
        rw [wrap_succ hlt (by omega), show okRow n L rows[i] = true from by unfold okRow; rw [h, decide_eq_true h1]; rfl, Bool.true_and]
        exact ih (i + 1) (by omega) (by omega)
      · rw [List.drop_zero] at h
        rw [show okRow n L rows[i] = false from by unfold okRow; rw [Bool.not_eq_true] at h; rw [h, Bool.and_false], Bool.false_and]
        rfl
    · refine ev_neg h1 (ev_eq (ev_some 4) ?_)
      rw [show okRow n L rows[i] = false from by unfold okRow; rw [decide_eq_false h1, Bool.false_and], Bool.false_and]
      rfl
theorem dval_ev (L s : Int) (fin : List Bool) (next : List (List Int)) : Ev (fun k => dfa_Validate.f k L s fin next) (valE L s fin next) := by
  have J : ∀ b : Bool, b = decide (L < 1 ∨ L > 6) → Ev (fun k => dfa_Validate.j0 k (fin.length : Int) b L s fin next) (valE L s fin next) := by
    intro b e
    unfold valE
    by_cases h1 : L < 1 ∨ L > 6
    · rw [decide_eq_true h1] at e
      rw [if_pos h1]
      exact Ev.step (fun _ => rfl) (ev_pos e (ev_some 1))
    · rw [decide_eq_false h1] at e
      rw [if_neg h1]
      refine Ev.step (fun _ => rfl) (ev_neg (by simp [e]) ?_)
      by_cases h2 : fin.length > 512
      · rw [if_pos h2]
        exact ev_pos (by omega) (ev_some 3)
      · rw [if_neg h2]
        refine ev_neg (by omega) ?_
        by_cases h3 : fin.length = 0
        · rw [if_pos (.inl h3)]
          exact ev_pos (by omega) (ev_some 4)
        · refine ev_neg (by omega) ?_
          by_cases h4 : next.length = fin.length
          · refine ev_pos (by omega) ?_
            by_cases h5 : s < 0
            · rw [if_pos (.inr (.inr (.inl h5)))]
              exact ev_pos h5 (ev_some 4)
            · refine ev_neg h5 ?_
              by_cases h6 : s ≥ (fin.length : Int)
              · rw [if_pos (.inr (.inr (.inr h6)))]
                exact ev_pos h6 (ev_some 4)
              · rw [if_neg (by omega)]
                refine ev_neg h6 ?_
                have := dval_l0 (fin.length : Int) L s (by omega) fin next next (by omega) _ 0 rfl (by omega)
                rwa [List.drop_zero] at this
          · rw [if_pos (.inr (.inl h4))]
            exact ev_neg (by omega) (ev_some 4)
  by_cases h : L < 1
  · exact ev_pos h (J true (by rw [decide_eq_true (.inl h)]))
  · exact ev_neg h (J _ (by simp only [h, false_or]))

theorem rval_l1 (n L s : Int) (fin : List Bool) (next rows : List (List Int)) (len i : Int) (row : List Int) (hn : row.length ≤ 1000) (r : Int) : ∀ (d j : Nat), row.length - j = d → j ≤ row.length →
    ((row.drop j).all (fun q => decide (0 ≤ q ∧ q < n)) = true → Ev (fun k => semigroupref07_Validate.l0 k n rows len (wrap64 (i + 1)) L s fin next) r) →
    (¬ (row.drop j).all (fun q => decide (0 ≤ q ∧ q < n)) = true → r = 4) →
    Ev (fun k => semigroupref07_Validate.l1 k n rows len i row (row.length : Int) (j : Int) L s fin next) r := by
  intro d
  induction d with
  | zero =>
    intro j hd hj h h'
    exact Ev.step (fun _ => rfl) (ev_neg (by omega) (h (by rw [List.drop_eq_nil_of_le (by omega)]; rfl)))
  | succ d ih =>
    intro j hd hj h h'
    have hlt : j < row.length := by omega
    rw [List.drop_eq_getElem_cons hlt, List.all_cons] at h h'
    refine Ev.step (fun _ => rfl) (ev_pos (by omega) (ev_pos (by omega) (ev_pos (by omega) ?_)))
    rw [rd_at row j hlt]
    by_cases h1 : row[j] < 0
    · exact ev_pos h1 (ev_eq (ev_some 4) (h' (by rw [decide_eq_false (by omega)]; simp)).symm)
    · refine ev_neg h1 ?_
      by_cases h2 : row[j] ≥ n
      · exact ev_pos h2 (ev_eq (ev_some 4) (h' (by rw [decide_eq_false (by omega)]; simp)).symm)
      · refine ev_neg h2 ?_
        rw [wrap_succ hlt (by omega)]
        rw [decide_eq_true (show 0 ≤ row[j] ∧ row[j] < n by omega), Bool.true_and] at h h'
        exact ih (j + 1) (by omega) (by omega) h h'
theorem rval_l0 (n L s : Int) (hL : 0 ≤ L ∧ L ≤ 6) (fin : List Bool) (next rows : List (List Int)) (hr : rows.length ≤ 1000) : ∀ (d i : Nat), rows.length - i = d → i ≤ rows.length →
    Ev (fun k => semigroupref07_Validate.l0 k n rows (rows.length : Int) (i : Int) L s fin next) (if (rows.drop i).all (okRow n L) then 0 else 4) := by
  intro d
  induction d with
  | zero =>
    intro i hd hi
    exact Ev.step (fun _ => rfl) (ev_neg (by omega) (ev_eq (ev_some 0) (by rw [List.drop_eq_nil_of_le (by omega)]; rfl)))
  | succ d ih =>
    intro i hd hi
    have hlt : i < rows.length := by omega
    rw [List.drop_eq_getElem_cons hlt, List.all_cons]
    refine Ev.step (fun _ => rfl) (ev_pos (by omega) (ev_pos (by omega) (ev_pos (by omega) ?_)))
    rw [rdL_at rows i hlt]
    by_cases h1 : (rows[i].length : Int) = L
    · refine ev_pos h1 (rval_l1 n L s fin next rows _ i rows[i] (by omega) _ _ 0 rfl (by omega) (fun h => ?_) (fun h => ?_))
      · rw [List.drop_zero] at h
        rw [wrap_succ hlt (by omega), show okRow n L rows[i] = true from by unfold okRow; rw [h, decide_eq_true h1]; rfl, Bool.true_and]
        exact ih (i + 1) (by omega) (by omega)
      · rw [List.drop_zero] at h
        rw [show okRow n L rows[i] = false from by unfold okRow; rw [Bool.not_eq_true] at h; rw [h, Bool.and_false], Bool.false_and]
        rfl
    · refine ev_neg h1 (ev_eq (ev_some 4) ?_)
      rw [show okRow n L rows[i] = false from by unfold okRow; rw [decide_eq_false h1, Bool.false_and], Bool.false_and]
      rfl
theorem rval_ev (L s : Int) (fin : List Bool) (next : List (List Int)) : Ev (fun k => semigroupref07_Validate.f k L s fin next) (valE L s fin next) := by
  by_cases h1 : L < 1 ∨ L > 6
  · have hm : semigroupref01_MayLetters.f L = some false := by
      unfold semigroupref01_MayLetters.f
      by_cases h : L ≥ 1
      · rw [if_pos h, decide_eq_false (by omega)]
      · rw [if_neg h]
    refine ev_bind0 hm (ev_neg (by simp) (ev_eq (ev_some 1) ?_))
    unfold valE
    rw [if_pos h1]
  · have hm : semigroupref01_MayLetters.f L = some true := by
      unfold semigroupref01_MayLetters.f
      rw [if_pos (by omega), decide_eq_true (by omega)]
    refine ev_bind0 hm (ev_pos rfl ?_)
    unfold valE
    rw [if_neg h1]
    by_cases h2 : fin.length > 512
    · rw [if_pos h2]
      exact ev_pos (by omega) (ev_some 3)
    · rw [if_neg h2]
      refine ev_neg (by omega) ?_
      have J : ∀ b : Bool, b = decide (fin.length = 0 ∨ next.length ≠ fin.length ∨ s < 0 ∨ s ≥ (fin.length : Int)) → Ev (fun k => semigroupref07_Validate.j0 k (fin.length : Int) b L s fin next) (if fin.length = 0 ∨ next.length ≠ fin.length ∨ s < 0 ∨ s ≥ (fin.length : Int) then 4 else if next.all (okRow fin.length L) then 0 else 4) := by
        intro b e
        by_cases h3 : fin.length = 0 ∨ next.length ≠ fin.length ∨ s < 0 ∨ s ≥ (fin.length : Int)
        · rw [decide_eq_true h3] at e
          rw [if_pos h3]
          exact Ev.step (fun _ => rfl) (ev_pos e (ev_some 4))
        · rw [decide_eq_false h3] at e
          rw [if_neg h3]
          refine Ev.step (fun _ => rfl) (ev_neg (by simp [e]) ?_)
          have := rval_l0 (fin.length : Int) L s (by omega) fin next next (by omega) _ 0 rfl (by omega)
          rwa [List.drop_zero] at this
      by_cases h3 : fin.length = 0
      · exact ev_pos (by omega) (J true (decide_eq_true (.inl h3)).symm)
      · refine ev_neg (by omega) ?_
        by_cases h4 : next.length = fin.length
        · refine ev_pos (by omega) ?_
          by_cases h5 : s < 0
          · exact ev_pos h5 (J true (decide_eq_true (.inr (.inr (.inl h5)))).symm)
          · refine ev_neg h5 (J _ ?_)
            by_cases h6 : s ≥ (fin.length : Int)
            · rw [decide_eq_true h6, decide_eq_true (.inr (.inr (.inr h6)))]
            · rw [decide_eq_false h6, decide_eq_false (by omega)]
        · exact ev_neg (by omega) (J true (decide_eq_true (.inr (.inl h4))).symm)

theorem DfaValidates : semigrouplaw07_DfaValidates.Pure := by
  intro x hx
  exact Ev.rounds (
    ev_bind (dval_ev _ _ _ _) (ev_bind (rval_ev _ _ _ _) (ev_pos rfl (ev_bind awake_ev (ev_some true)))))

end Go.Proofs.Ytpjbmgoagehjkaa.Pure
