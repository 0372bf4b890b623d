/- The first accepted words are accepted and ascend, an accepted word that is less than the last one is among them, and there are as many of each length as are counted. -/
import Derived.Test.YtpjbmgoagehjkaaZDfaEnumeratesQ
namespace Go.Proofs.Ytpjbmgoagehjkaa.Pure
open Go.RowKit Go.Proofs.Ytpjbmgoagehjkaa.PDfaEnumerates Go.Proofs.YtpjbmgoagehjkaaW.PrintWords Go.Proofs.YtpjbmgoagehjkaaW.PrintLast Go.Proofs.YtpjbmgoagehjkaaH
set_option linter.unusedVariables false
set_option linter.unusedSimpArgs false

theorem ev_mono {α : Type} {f : Nat → Option α} {r : α} (K : Nat) (hm : ∀ k, LeO (f k) (f (k + 1))) (h : f K = some r) : Ev f r := by
  refine ⟨K, fun n hn => ?_⟩
  induction n with
  | zero => rw [show K = 0 from by omega] at h; exact h
  | succ n ih =>
    by_cases e : K = n + 1
    · rw [← e]; exact h
    · exact hm n _ (ih (by omega))

theorem words_odd : Ev (fun k => dfa_Words.f k 2 0 [false, true] [[1, 0], [0, 1]] 3) [⟨#[97]⟩, ⟨#[97, 98]⟩, ⟨#[98, 97]⟩] := by
  refine ev_mono 40 (fun k => dfa_Words.mono _ _ _ _ _ k) ?_
  kernel_rfl
theorem awake_ev : Ev (fun k => semigrouplaw07_awake.f k) true := by
  refine ev_bind0 rfl (ev_bind words_odd (ev_bind ?_ (ev_some true)))
  refine ev_mono 10 (fun k => semigroupref01_Same.mono _ _ k) ?_
  kernel_rfl

/-- A row of a valid automaton with n states and L letters. -/
def okRow (n L : Int) (row : List Int) : Bool := decide ((row.length : Int) = L) && row.all (fun q => decide (0 ≤ q ∧ q < n))
/-- What is wrong with an automaton. -/
def valE (L s : Int) (fin : List Bool) (next : List (List Int)) : Int :=
  if L < 1 ∨ L > 6 then 1 else if fin.length > 512 then 3 else if fin.length = 0 ∨ next.length ≠ fin.length ∨ s < 0 ∨ s ≥ (fin.length : Int) then 4
  else if next.all (okRow fin.length L) then 0 else 4
theorem rdL_at (l : List (List Int)) (i : Nat) (h : i < l.length) : rd_L1 l (i : Int) = l[i] := by simp [rd_L1, List.getD, h]
theorem dval_l1 (n L s : Int) (fin : List Bool) (next rows : List (List Int)) (len i : Int) (row : List Int) (hn : row.length ≤ 1000) (r : Int) : ∀ (d j : Nat), row.length - j = d → j ≤ row.length →
    ((row.drop j).all (fun q => decide (0 ≤ q ∧ q < n)) = true → Ev (fun k => dfa_Validate.l0 k n rows len (wrap64 (i + 1)) L s fin next) r) →
    (¬ (row.drop j).all (fun q => decide (0 ≤ q ∧ q < n)) = true → r = 4) →
    Ev (fun k => dfa_Validate.l1 k n rows len i row (row.length : Int) (j : Int) L s fin next) r := by
  intro d
  induction d with
  | zero =>
    intro j hd hj h h'
    exact Ev.step (fun _ => rfl) (ev_neg (by omega) (h (by rw [List.drop_eq_nil_of_le (by omega)]; rfl)))
  | succ d ih =>
    intro j hd hj h h'
    have hlt : j < row.length := by omega
    rw [List.drop_eq_getElem_cons hlt, List.all_cons] at h h'
    refine Ev.step (fun _ => rfl) (ev_pos (by omega) (ev_pos (by omega) (ev_pos (by omega) ?_)))
    rw [rd_at row j hlt]
    by_cases h1 : row[j] < 0
    · exact ev_pos h1 (ev_eq (ev_some 4) (h' (by rw [decide_eq_false (by omega)]; simp)).symm)
    · refine ev_neg h1 ?_
      by_cases h2 : row[j] ≥ n
      · exact ev_pos h2 (ev_eq (ev_some 4) (h' (by rw [decide_eq_false (by omega)]; simp)).symm)
      · refine ev_neg h2 ?_
        rw [wrap_succ hlt (by omega)]
        rw [decide_eq_true (show 0 ≤ row[j] ∧ row[j] < n by omega), Bool.true_and] at h h'
        exact ih (j + 1) (by omega) (by omega) h h'
theorem dval_l0 (n L s : Int) (hL : 0 ≤ L ∧ L ≤ 6) (fin : List Bool) (next rows : List (List Int)) (hr : rows.length ≤ 1000) : ∀ (d i : Nat), rows.length - i = d → i ≤ rows.length →
    Ev (fun k => dfa_Validate.l0 k n rows (rows.length : Int) (i : Int) L s fin next) (if (rows.drop i).all (okRow n L) then 0 else 4) := by
  intro d
  induction d with
  | zero =>
    intro i hd hi
    exact Ev.step (fun _ => rfl) (ev_neg (by omega) (ev_eq (ev_some 0) (by rw [List.drop_eq_nil_of_le (by omega)]; rfl)))
  | succ d ih =>
    intro i hd hi
    have hlt : i < rows.length := by omega
    rw [List.drop_eq_getElem_cons hlt, List.all_cons]
    refine Ev.step (fun _ => rfl) (ev_pos (by omega) (ev_pos (by omega) (ev_pos (by omega) ?_)))
    rw [rdL_at rows i hlt]
    by_cases h1 : (rows[i].length : Int) = L
    · refine ev_pos h1 (dval_l1 n L s fin next rows _ i rows[i] (by omega) _ _ 0 rfl (by omega) (fun h => ?_) (fun h => ?_))
      · rw [List.drop_zero] at h
        rw [wrap_succ hlt (by omega), show okRow n L rows[i] = true from by unfold okRow; rw [h, decide_eq_true h1]; rfl, Bool.true_and]
        exact ih (i + 1) (by omega) (by omega)
      · rw [List.drop_zero] at h
        rw [show okRow n L rows[i] = false from by unfold okRow; rw [Bool.not_eq_true] at h; rw [h, Bool.and_false], Bool.false_and]
        rfl
    · refine ev_neg h1 (ev_eq (ev_some 4) ?_)
      rw [show okRow n L rows[i] = false from by unfold okRow; rw [decide_eq_false h1, Bool.false_and], Bool.false_and]
      rfl
theorem dval_ev (L s : Int) (fin : List Bool) (next : List (List Int)) : Ev (fun k => dfa_Validate.f k L s fin next) (valE L s fin next) := by
  have J : ∀ b : Bool, b = decide (L < 1 ∨ L > 6) → Ev (fun k => dfa_Validate.j0 k (fin.length : Int) b L s fin next) (valE L s fin next) := by
    intro b e
    unfold valE
    by_cases h1 : L < 1 ∨ L > 6
    · rw [decide_eq_true h1] at e
      rw [if_pos h1]
      exact Ev.step (fun _ => rfl) (ev_pos e (ev_some 1))
    · rw [decide_eq_false h1] at e
      rw [if_neg h1]
      refine Ev.step (fun _ => rfl) (ev_neg (by simp [e]) ?_)
      by_cases h2 : fin.length > 512
      · rw [if_pos h2]
        exact ev_pos (by omega) (ev_some 3)
      · rw [if_neg h2]
        refine ev_neg (by omega) ?_
        by_cases h3 : fin.length = 0
        · rw [if_pos (.inl h3)]
          exact ev_pos (by omega) (ev_some 4)
        · refine ev_neg (by omega) ?_
          by_cases h4 : next.length = fin.length
          · refine ev_pos (by omega) ?_
            by_cases h5 : s < 0
            · rw [if_pos (.inr (.inr (.inl h5)))]
              exact ev_pos h5 (ev_some 4)
            · refine ev_neg h5 ?_
              by_cases h6 : s ≥ (fin.length : Int)
              · rw [if_pos (.inr (.inr (.inr h6)))]
                exact ev_pos h6 (ev_some 4)
              · rw [if_neg (by omega)]
                refine ev_neg h6 ?_
                have := dval_l0 (fin.length : Int) L s (by omega) fin next next (by omega) _ 0 rfl (by omega)
                rwa [List.drop_zero] at this
          · rw [if_pos (.inr (.inl h4))]
            exact ev_neg (by omega) (ev_some 4)
  by_cases h : L < 1
  · exact ev_pos h (J true (by rw [decide_eq_true (.inl h)]))
  · exact ev_neg h (J _ (by simp only [h, false_or]))

theorem rval_l1 (n L s : Int) (fin : List Bool) (next rows : List (List Int)) (len i : Int) (row : List Int) (hn : row.length ≤ 1000) (r : Int) : ∀ (d j : Nat), row.length - j = d → j ≤ row.length →
    ((row.drop j).all (fun q => decide (0 ≤ q ∧ q < n)) = true → Ev (fun k => semigroupref07_Validate.l0 k n rows len (wrap64 (i + 1)) L s fin next) r) →
    (¬ (row.drop j).all (fun q => decide (0 ≤ q ∧ q < n)) = true → r = 4) →
    Ev (fun k => semigroupref07_Validate.l1 k n rows len i row (row.length : Int) (j : Int) L s fin next) r := by
  intro d
  induction d with
  | zero =>
    intro j hd hj h h'
    exact Ev.step (fun _ => rfl) (ev_neg (by omega) (h (by rw [List.drop_eq_nil_of_le (by omega)]; rfl)))
  | succ d ih =>
    intro j hd hj h h'
    have hlt : j < row.length := by omega
    rw [List.drop_eq_getElem_cons hlt, List.all_cons] at h h'
    refine Ev.step (fun _ => rfl) (ev_pos (by omega) (ev_pos (by omega) (ev_pos (by omega) ?_)))
    rw [rd_at row j hlt]
    by_cases h1 : row[j] < 0
    · exact ev_pos h1 (ev_eq (ev_some 4) (h' (by rw [decide_eq_false (by omega)]; simp)).symm)
    · refine ev_neg h1 ?_
      by_cases h2 : row[j] ≥ n
      · exact ev_pos h2 (ev_eq (ev_some 4) (h' (by rw [decide_eq_false (by omega)]; simp)).symm)
      · refine ev_neg h2 ?_
        rw [wrap_succ hlt (by omega)]
        rw [decide_eq_true (show 0 ≤ row[j] ∧ row[j] < n by omega), Bool.true_and] at h h'
        exact ih (j + 1) (by omega) (by omega) h h'
theorem rval_l0 (n L s : Int) (hL : 0 ≤ L ∧ L ≤ 6) (fin : List Bool) (next rows : List (List Int)) (hr : rows.length ≤ 1000) : ∀ (d i : Nat), rows.length - i = d → i ≤ rows.length →
    Ev (fun k => semigroupref07_Validate.l0 k n rows (rows.length : Int) (i : Int) L s fin next) (if (rows.drop i).all (okRow n L) then 0 else 4) := by
  intro d
  induction d with
  | zero =>
    intro i hd hi
    exact Ev.step (fun _ => rfl) (ev_neg (by omega) (ev_eq (ev_some 0) (by rw [List.drop_eq_nil_of_le (by omega)]; rfl)))
  | succ d ih =>
    intro i hd hi
    have hlt : i < rows.length := by omega
    rw [List.drop_eq_getElem_cons hlt, List.all_cons]
    refine Ev.step (fun _ => rfl) (ev_pos (by omega) (ev_pos (by omega) (ev_pos (by omega) ?_)))
    rw [rdL_at rows i hlt]
    by_cases h1 : (rows[i].length : Int) = L
    · refine ev_pos h1 (rval_l1 n L s fin next rows _ i rows[i] (by omega) _ _ 0 rfl (by omega) (fun h => ?_) (fun h => ?_))
      · rw [List.drop_zero] at h
        rw [wrap_succ hlt (by omega), show okRow n L rows[i] = true from by unfold okRow; rw [h, decide_eq_true h1]; rfl, Bool.true_and]
        exact ih (i + 1) (by omega) (by omega)
      · rw [List.drop_zero] at h
        rw [show okRow n L rows[i] = false from by unfold okRow; rw [Bool.not_eq_true] at h; rw [h, Bool.and_false], Bool.false_and]
        rfl
    · refine ev_neg h1 (ev_eq (ev_some 4) ?_)
      rw [show okRow n L rows[i] = false from by unfold okRow; rw [decide_eq_false h1, Bool.false_and], Bool.false_and]
      rfl
theorem rval_ev (L s : Int) (fin : List Bool) (next : List (List Int)) : Ev (fun k => semigroupref07_Validate.f k L s fin next) (valE L s fin next) := by
  by_cases h1 : L < 1 ∨ L > 6
  · have hm : semigroupref01_MayLetters.f L = some false := by
      unfold semigroupref01_MayLetters.f
      by_cases h : L ≥ 1
      · rw [if_pos h, decide_eq_false (by omega)]
      · rw [if_neg h]
    refine ev_bind0 hm (ev_neg (by simp) (ev_eq (ev_some 1) ?_))
    unfold valE
    rw [if_pos h1]
  · have hm : semigroupref01_MayLetters.f L = some true := by
      unfold semigroupref01_MayLetters.f
      rw [if_pos (by omega), decide_eq_true (by omega)]
    refine ev_bind0 hm (ev_pos rfl ?_)
    unfold valE
    rw [if_neg h1]
    by_cases h2 : fin.length > 512
    · rw [if_pos h2]
      exact ev_pos (by omega) (ev_some 3)
    · rw [if_neg h2]
      refine ev_neg (by omega) ?_
      have J : ∀ b : Bool, b = decide (fin.length = 0 ∨ next.length ≠ fin.length ∨ s < 0 ∨ s ≥ (fin.length : Int)) → Ev (fun k => semigroupref07_Validate.j0 k (fin.length : Int) b L s fin next) (if fin.length = 0 ∨ next.length ≠ fin.length ∨ s < 0 ∨ s ≥ (fin.length : Int) then 4 else if next.all (okRow fin.length L) then 0 else 4) := by
        intro b e
        by_cases h3 : fin.length = 0 ∨ next.length ≠ fin.length ∨ s < 0 ∨ s ≥ (fin.length : Int)
        · rw [decide_eq_true h3] at e
          rw [if_pos h3]
          exact Ev.step (fun _ => rfl) (ev_pos e (ev_some 4))
        · rw [decide_eq_false h3] at e
          rw [if_neg h3]
          refine Ev.step (fun _ => rfl) (ev_neg (by simp [e]) ?_)
          have := rval_l0 (fin.length : Int) L s (by omega) fin next next (by omega) _ 0 rfl (by omega)
          rwa [List.drop_zero] at this
      by_cases h3 : fin.length = 0
      · exact ev_pos (by omega) (J true (decide_eq_true (.inl h3)).symm)
      · refine ev_neg (by omega) ?_
        by_cases h4 : next.length = fin.length
        · refine ev_pos (by omega) ?_
          by_cases h5 : s < 0
          · exact ev_pos h5 (J true (decide_eq_true (.inr (.inr (.inl h5)))).symm)
          · refine ev_neg h5 (J _ ?_)
            by_cases h6 : s ≥ (fin.length : Int)
            · rw [decide_eq_true h6, decide_eq_true (.inr (.inr (.inr h6)))]
            · rw [decide_eq_false h6, decide_eq_false (by omega)]
        · exact ev_neg (by omega) (J true (decide_eq_true (.inr (.inl h4))).symm)

theorem valid_ev (L s : Int) (fin : List Bool) (next : List (List Int)) : Ev (fun k => semigrouplaw07_valid.f k L s fin next) (valE L s fin next == 0) :=
  ev_bind (rval_ev _ _ _ _) (ev_some _)

theorem valE_zero {L s : Int} {fin : List Bool} {next : List (List Int)} (h : valE L s fin next = 0) :
    1 ≤ L ∧ L ≤ 6 ∧ 0 < fin.length ∧ fin.length ≤ 512 ∧ next.length = fin.length ∧ 0 ≤ s ∧ s < (fin.length : Int) ∧ ∀ row ∈ next, (row.length : Int) = L ∧ ∀ q ∈ row, 0 ≤ q ∧ q < (fin.length : Int) := by
  unfold valE at h
  by_cases h1 : L < 1 ∨ L > 6
  · rw [if_pos h1] at h; cases h
  rw [if_neg h1] at h
  by_cases h2 : fin.length > 512
  · rw [if_pos h2] at h; cases h
  rw [if_neg h2] at h
  by_cases h3 : fin.length = 0 ∨ next.length ≠ fin.length ∨ s < 0 ∨ s ≥ (fin.length : Int)
  · rw [if_pos h3] at h; cases h
  rw [if_neg h3] at h
  by_cases h4 : next.all (okRow fin.length L) = true
  · refine ⟨by omega, by omega, by omega, by omega, by omega, by omega, by omega, fun row hr => ?_⟩
    have h5 := List.all_eq_true.1 h4 row hr
    simp only [okRow, Bool.and_eq_true, decide_eq_true_eq, List.all_eq_true] at h5
    exact h5
  · rw [if_neg h4] at h; cases h
theorem valE_no {L s : Int} {fin : List Bool} {next : List (List Int)} : valE L s fin next = 0 ∨ valE L s fin next = 1 ∨ valE L s fin next = 3 ∨ valE L s fin next = 4 := by
  unfold valE
  repeat' split
  all_goals simp

theorem tk_set {α : Type} {xs ys : List α} {j : Nat} (h : j < xs.length) (hl : xs.length = ys.length) : (xs.take j ++ ys.drop j).set j xs[j] = xs.take (j + 1) ++ ys.drop (j + 1) := by
  apply List.ext_getElem?
  intro i
  simp only [List.getElem?_set, List.getElem?_append, List.getElem?_take, List.getElem?_drop, List.length_take, List.length_append, List.length_drop]
  by_cases h1 : j = i
  · subst h1
    rw [if_pos rfl, if_pos (by omega), if_pos (by omega), if_pos (by omega), List.getElem?_eq_getElem h]
  · rw [if_neg h1]
    by_cases h2 : i < j
    · rw [if_pos (by omega), if_pos h2, if_pos (by omega), if_pos (by omega)]
    · rw [if_neg (by omega), if_neg (by omega)]
      congr 1
      omega
theorem tk_all {α : Type} {xs ys : List α} {j : Nat} (h : xs.length ≤ j) (hl : xs.length = ys.length) : xs.take j ++ ys.drop j = xs := by
  rw [List.take_of_length_le h, List.drop_eq_nil_of_le (by omega), List.append_nil]
theorem tk_len {α : Type} {xs ys : List α} {j : Nat} (hl : xs.length = ys.length) : (xs.take j ++ ys.drop j).length = xs.length := by
  simp only [List.length_append, List.length_take, List.length_drop]; omega

theorem rdOf_get {α : Type} (d : α) (l : List α) (i : Nat) (h : i < l.length) : rdOf d l (i : Int) = l[i] := by simp [rdOf, List.getD, h]
def eor (e : List Bool) (row : List Int) (b : Bool) : Bool := row.foldl (fun b t => b || rdOf false e t) b
/-- From which states some word of a length leads to a final one. -/
def E (fin : List Bool) (next : List (List Int)) : Nat → List Bool
  | 0 => fin
  | k + 1 => next.map (fun row => eor (E fin next k) row false)
theorem E_len {fin : List Bool} {next : List (List Int)} (h : next.length = fin.length) : ∀ k, (E fin next k).length = fin.length
  | 0 => rfl
  | k + 1 => by simp [E, h]
def El (fin : List Bool) (next : List (List Int)) (j : Nat) : List (List Bool) := (List.range j).map (E fin next)
theorem El_len (fin : List Bool) (next : List (List Int)) (j : Nat) : (El fin next j).length = j := by simp [El]
theorem El_at (fin : List Bool) (next : List (List Int)) (j k : Nat) (h : k < j) : rd_L3 (El fin next j) (k : Int) = E fin next k := by simp [rd_L3, El, List.getD, h]
theorem El_succ (fin : List Bool) (next : List (List Int)) (j : Nat) : El fin next (j + 1) = El fin next j ++ [E fin next j] := by simp [El, List.range_succ]
def colRow (f : List ByteArray → Int → Int → List ByteArray) : Nat → List Int → List ByteArray → List ByteArray
  | _, [], out => out
  | a, t :: row, out => colRow f (a + 1) row (f out (a : Int) t)
def col (fin : List Bool) (next : List (List Int)) (n : Int) : Nat → List ByteArray → List Int → Int → List ByteArray
  | 0, out, b, _ => out ++ [strOfNums b]
  | k + 1, out, b, q => colRow (fun out a t => if (out.length : Int) < n ∧ rdOf false (E fin next k) t = true then col fin next n k out (b ++ [97 + a]) t else out) 0 (rd_L1 next q) out
def wloop (fin : List Bool) (next : List (List Int)) (s n : Int) : Nat → Nat → List ByteArray → List ByteArray
  | 0, _, out => out
  | d + 1, k, out => if (out.length : Int) < n then wloop fin next s n d (k + 1) (if rdOf false (E fin next k) s = true then col fin next n k out [] s else out) else out
def wordsE (fin : List Bool) (next : List (List Int)) (s n : Int) : List ByteArray := wloop fin next s n 2049 0 []
theorem colRow_len {f : List ByteArray → Int → Int → List ByteArray} {n : Int} (hf : ∀ out a t, (out.length : Int) ≤ n → ((f out a t).length : Int) ≤ n) : ∀ (row : List Int) (a : Nat) (out : List ByteArray), (out.length : Int) ≤ n → ((colRow f a row out).length : Int) ≤ n
  | [], _, _, h => h
  | t :: row, a, out, h => colRow_len hf row (a + 1) _ (hf out _ t h)
theorem col_len (fin : List Bool) (next : List (List Int)) (n : Int) : ∀ (k : Nat) (out : List ByteArray) (b : List Int) (q : Int), (out.length : Int) < n → ((col fin next n k out b q).length : Int) ≤ n
  | 0, out, b, q, h => by show ((out ++ [strOfNums b]).length : Int) ≤ n; simp; omega
  | k + 1, out, b, q, h => by
    refine colRow_len (fun out a t ho => ?_) _ _ _ (by omega)
    by_cases hc : (out.length : Int) < n ∧ rdOf false (E fin next k) t = true
    · show (((if (out.length : Int) < n ∧ rdOf false (E fin next k) t = true then col fin next n k out (b ++ [97 + a]) t else out)).length : Int) ≤ n
      rw [if_pos hc]
      exact col_len fin next n k _ _ _ hc.1
    · show (((if (out.length : Int) < n ∧ rdOf false (E fin next k) t = true then col fin next n k out (b ++ [97 + a]) t else out)).length : Int) ≤ n
      rw [if_neg hc]
      exact ho
theorem wloop_len (fin : List Bool) (next : List (List Int)) (s n : Int) : ∀ (d k : Nat) (out : List ByteArray), (out.length : Int) ≤ n → ((wloop fin next s n d k out).length : Int) ≤ n
  | 0, _, _, h => h
  | d + 1, k, out, h => by
    unfold wloop
    split
    · rename_i h1
      refine wloop_len fin next s n d (k + 1) _ ?_
      split
      · exact col_len fin next n k _ _ _ h1
      · exact h
    · exact h
theorem set_or (row : List Bool) (q : Nat) (h : q < row.length) (e : Bool) : (if rdOf false row (q : Int) = true then row.set q true else row.set q e) = row.set q (rdOf false row (q : Int) || e) := by
  cases rdOf false row (q : Int) <;> rfl
/-- An automaton that is valid. -/
structure VA (L s : Int) (fin : List Bool) (next : List (List Int)) : Prop where
  l1 : 1 ≤ L
  l6 : L ≤ 6
  n0 : 0 < fin.length
  n5 : fin.length ≤ 512
  nl : next.length = fin.length
  s0 : 0 ≤ s
  s1 : s < (fin.length : Int)
  rw : ∀ row ∈ next, (row.length : Int) = L ∧ ∀ q ∈ row, 0 ≤ q ∧ q < (fin.length : Int)
theorem VA.of {L s : Int} {fin : List Bool} {next : List (List Int)} (h : valE L s fin next = 0) : VA L s fin next := by
  obtain ⟨v1, v2, v3, v4, v5, v6, v7, v8⟩ := valE_zero h
  exact ⟨v1, v2, v3, v4, v5, v6, v7, v8⟩
theorem VA.row0 {L s : Int} {fin : List Bool} {next : List (List Int)} (V : VA L s fin next) {q : Int} (h0 : 0 ≤ q) (h1 : q < (fin.length : Int)) : ∀ t ∈ rd_L1 next q, 0 ≤ t ∧ t < (fin.length : Int) := by
  obtain ⟨y, rfl⟩ := Int.eq_ofNat_of_zero_le h0
  have := V.nl
  rw [rdL_at next y (by omega)]
  exact (V.rw _ (List.getElem_mem (by omega))).2

theorem str_snoc (b : List Int) (x : Int) : strOfNums (b ++ [x]) = strOfNums b ++ strOfNums [x] := by
  apply ByteArray.ext
  simp [strOfNums]
theorem dcol_l0 {L s : Int} {fin : List Bool} {next : List (List Int)} (V : VA L s fin next) (n : Int) (J m : Nat) (hm : m < J) (hJ : J ≤ 3000) (hn : n ≤ 1000) (b : List Int) (hb : b.length ≤ 3000) (row : List Int) (hl : (row.length : Int) = L) (hq : ∀ q ∈ row, 0 ≤ q ∧ q < (fin.length : Int))
    (ih : ∀ (out : List ByteArray) (b' : List Int) (q : Int), (out.length : Int) < n → b'.length = b.length + 1 → 0 ≤ q → q < (fin.length : Int) → Ev (fun k => dfa_collect.f k L s fin next (El fin next J) n out b' q (m : Int)) (col fin next n m out b' q, b')) : ∀ (d j : Nat) (out : List ByteArray), row.length - j = d → j ≤ row.length → (out.length : Int) ≤ n →
    Ev (fun k => dfa_collect.l0 k (El fin next J) n out b ((m + 1 : Nat) : Int) row (row.length : Int) (j : Int) L s fin next) (colRow (fun out a t => if (out.length : Int) < n ∧ rdOf false (E fin next m) t = true then col fin next n m out (b ++ [97 + a]) t else out) j (row.drop j) out, b) := by
  intro d
  induction d with
  | zero =>
    intro j out hd hj ho
    rw [List.drop_eq_nil_of_le (by omega)]
    exact Ev.step (fun _ => rfl) (ev_neg (by omega) (ev_some _))
  | succ d ihd =>
    intro j out hd hj ho
    have hlt : j < row.length := by omega
    have hbq := hq row[j] (List.getElem_mem hlt)
    have hl6 := V.l6
    rw [List.drop_eq_getElem_cons hlt]
    refine Ev.step (fun _ => rfl) (ev_pos (by omega) (ev_pos (by omega) (ev_pos (by omega) ?_)))
    have e1 : wrap64 (((m + 1 : Nat) : Int) - 1) = (m : Int) := by rw [wrap_in (by omega) (by omega)]; omega
    have IH := fun out' (h : (out'.length : Int) ≤ n) => ihd (j + 1) out' (by omega) (by omega) h
    rw [rd_at row j hlt, wrap_succ hlt (by omega), e1, El_at _ _ _ _ hm]
    show Ev _ (colRow _ (j + 1) (row.drop (j + 1)) (if (out.length : Int) < n ∧ rdOf false (E fin next m) row[j] = true then col fin next n m out (b ++ [97 + (j : Int)]) row[j] else out), b)
    by_cases h1 : (out.length : Int) < n
    · refine ev_pos h1 (ev_pos (by omega) (ev_pos (by rw [El_len]; omega) (ev_pos hbq.1 (ev_pos (by rw [E_len V.nl]; exact hbq.2) ?_))))
      by_cases h2 : rdOf false (E fin next m) row[j] = true
      · rw [if_pos ⟨h1, h2⟩]
        refine ev_pos h2 (ev_pos (by omega) ?_)
        rw [show (97 + (j : Int) % 256) % 256 = 97 + (j : Int) by omega]
        refine ev_bind (ih out (b ++ [97 + (j : Int)]) row[j] h1 (by simp) hbq.1 hbq.2) ?_
        exact IH _ (col_len fin next n m _ _ _ h1)
      · rw [if_neg (fun h => h2 h.2)]
        exact ev_neg h2 (IH out ho)
    · rw [if_neg (fun h => h1 h.1)]
      exact ev_neg h1 (IH out ho)
theorem dcol_ev {L s : Int} {fin : List Bool} {next : List (List Int)} (V : VA L s fin next) (n : Int) (J : Nat) (hJ : J ≤ 3000) (hn : n ≤ 1000) : ∀ (m : Nat) (out : List ByteArray) (b : List Int) (q : Int), m ≤ J → (out.length : Int) < n → b.length + m ≤ 3000 → 0 ≤ q → q < (fin.length : Int) →
    Ev (fun k => dfa_collect.f k L s fin next (El fin next J) n out b q (m : Int)) (col fin next n m out b q, b) := by
  intro m
  induction m with
  | zero =>
    intro out b q hm ho hb h0 h1
    obtain ⟨z, hz⟩ : ∃ z : Int, z = ((0 : Nat) : Int) := ⟨_, rfl⟩
    rw [← hz]
    exact Ev.step (fun _ => rfl) (ev_pos hz (ev_pos (by omega) (ev_some _)))
  | succ m ih =>
    intro out b q hm ho hb h0 h1
    obtain ⟨y, hy⟩ := Int.eq_ofNat_of_zero_le h0
    have hnl := V.nl
    have hr := V.rw next[y] (List.getElem_mem (by omega))
    obtain ⟨z, hz⟩ : ∃ z : Int, z = ((m + 1 : Nat) : Int) := ⟨_, rfl⟩
    rw [← hz]
    refine Ev.step (fun _ => rfl) (ev_neg (by omega) (ev_pos h0 (ev_pos (by omega) ?_)))
    rw [hz]
    have := dcol_l0 V n J m (by omega) hJ hn b (by omega) next[y] hr.1 hr.2 (fun out' b' q' h2 h3 h4 h5 => ih out' b' q' (by omega) h2 (by omega) h4 h5) _ 0 out rfl (by omega) (by omega)
    rw [List.drop_zero] at this
    show Ev _ (colRow _ 0 (rd_L1 next q) out, b)
    rw [hy, rdL_at next y (by omega)]
    exact this

theorem dwrd_l2 (n : Int) (out : List ByteArray) (fin : List Bool) (next : List (List Int)) (L s : Int) (ends : List (List Bool)) (k : Nat) (e : List Bool) (he : rd_L3 ends (k : Int) = e) (hk : k < ends.length) (hk' : k ≤ 3000) (q : Nat) (xl xi : Int) (tos : List Int) (hl : tos.length ≤ 6) (hq : ∀ t ∈ tos, 0 ≤ t ∧ t < (e.length : Int)) (r : List ByteArray) : ∀ (d j : Nat) (row : List Bool), tos.length - j = d → j ≤ tos.length → q < row.length →
    Ev (fun K => dfa_Words.l1 K n out ends ((k + 1 : Nat) : Int) (row.set q (eor e (tos.drop j) (rdOf false row (q : Int)))) xl (wrap64 (xi + 1)) L s fin next) r →
    Ev (fun K => dfa_Words.l2 K n out ends ((k + 1 : Nat) : Int) row (q : Int) xl xi tos (tos.length : Int) (j : Int) L s fin next) r := by
  intro d
  induction d with
  | zero =>
    intro j row hd hj hr h
    rw [List.drop_eq_nil_of_le (by omega)] at h
    have : row.set q (eor e [] (rdOf false row (q : Int))) = row := by
      show row.set q (rdOf false row (q : Int)) = row
      rw [rdOf_get false row q hr, List.set_getElem_self]
    rw [this] at h
    exact Ev.step (fun _ => rfl) (ev_neg (by omega) h)
  | succ d ih =>
    intro j row hd hj hr h
    have hlt : j < tos.length := by omega
    have hb := hq tos[j] (List.getElem_mem hlt)
    rw [List.drop_eq_getElem_cons hlt] at h
    have e1 : wrap64 (((k + 1 : Nat) : Int) - 1) = (k : Int) := by rw [wrap_in (by omega) (by omega)]; omega
    refine Ev.step (fun _ => rfl) (ev_pos (by omega) (ev_pos (by omega) (ev_pos (by omega) (ev_pos (by omega) (ev_pos (by omega) ?_)))))
    rw [rd_at tos j hlt, wrap_succ hlt (by omega), e1, he, Int.toNat_natCast]
    have IH := fun v (hv : v = (rdOf false row (q : Int) || rdOf false e tos[j])) => ih (j + 1) (row.set q v) (by omega) (by omega) (by simpa using hr) (by
      rw [rdOf_get false (row.set q v) q (by simpa using hr), List.getElem_set_self, List.set_set, hv]
      exact h)
    by_cases h1 : rdOf false row (q : Int) = true
    · exact ev_pos h1 (IH true (by rw [h1]; rfl))
    · refine ev_neg h1 (ev_pos (by omega) (ev_pos (by omega) (ev_pos hb.1 (ev_pos hb.2 (IH _ ?_)))))
      rw [Bool.not_eq_true] at h1
      rw [h1]; rfl
theorem dwrd_l1 {L s : Int} {fin : List Bool} {next : List (List Int)} (V : VA L s fin next) (n : Int) (out : List ByteArray) (k : Nat) (hk : k ≤ 2999) (r : List ByteArray)
    (h : Ev (fun K => dfa_Words.j5 K n out (El fin next (k + 2)) ((k + 1 : Nat) : Int) L s fin next) r) : ∀ (d i : Nat), fin.length - i = d → i ≤ fin.length →
    Ev (fun K => dfa_Words.l1 K n out (El fin next (k + 1)) ((k + 1 : Nat) : Int) ((E fin next (k + 1)).take i ++ (List.replicate fin.length false).drop i) (fin.length : Int) (i : Int) L s fin next) r := by
  have hE := E_len (fin := fin) V.nl
  have hlen : ∀ i, ((E fin next (k + 1)).take i ++ (List.replicate fin.length false).drop i).length = fin.length := fun i => by rw [tk_len (by simp [hE])]; exact hE _
  intro d
  induction d with
  | zero =>
    intro i hd hi
    refine Ev.step (fun _ => rfl) (ev_neg (by omega) (ev_pos (by rw [El_len]; omega) ?_))
    rw [tk_all (by rw [hE]; omega) (by simp [hE]), ← El_succ]
    exact h
  | succ d ih =>
    intro i hd hi
    have hl := hlen i
    have hnl := V.nl
    have hn5 := V.n5
    have hlt : i < fin.length := by omega
    have hr := V.rw next[i] (List.getElem_mem (by omega))
    refine Ev.step (fun _ => rfl) (ev_pos (by omega) (ev_pos (by omega) (ev_pos (by omega) ?_)))
    rw [rdL_at next i (by omega)]
    refine dwrd_l2 n out fin next L s (El fin next (k + 1)) k (E fin next k) (El_at _ _ _ _ (by omega)) (by rw [El_len]; omega) (by omega) i _ _ next[i] (by have := V.l6; omega) (by rw [hE]; exact hr.2) r _ 0 _ rfl (by omega) (by omega) ?_
    have e0 : rdOf false ((E fin next (k + 1)).take i ++ (List.replicate fin.length false).drop i) (i : Int) = false := by
      rw [rdOf_get _ _ i (by omega), List.getElem_append_right (by simp; omega)]
      simp
    have e1 : eor (E fin next k) next[i] false = (E fin next (k + 1))[i]'(by rw [hE]; omega) := by simp [E]
    rw [List.drop_zero, e0, e1, tk_set (by rw [hE]; omega) (by simp [hE]), wrap_succ hlt (by omega)]
    exact ih (i + 1) (by omega) (by omega)
theorem dwrd_j5 {L s : Int} {fin : List Bool} {next : List (List Int)} (V : VA L s fin next) (n : Int) (hn : n ≤ 1000) (out : List ByteArray) (k : Nat) (hk : k ≤ 2048) (ho : (out.length : Int) < n) (r : List ByteArray)
    (h : Ev (fun K => dfa_Words.l0 K n (if rdOf false (E fin next k) s = true then col fin next n k out [] s else out) (El fin next (k + 1)) ((k + 1 : Nat) : Int) L s fin next) r) :
    Ev (fun K => dfa_Words.j5 K n out (El fin next (k + 1)) (k : Int) L s fin next) r := by
  have hE := E_len (fin := fin) V.nl
  have hs := V.s1
  refine Ev.step (fun _ => rfl) (ev_pos (by rw [El_len]; omega) (ev_pos V.s0 ?_))
  rw [El_at _ _ _ _ (by omega), wrap_succ (show k < 2049 by omega) (by omega)]
  refine ev_pos (by rw [hE]; exact hs) ?_
  by_cases h1 : rdOf false (E fin next k) s = true
  · rw [if_pos h1] at h
    exact ev_pos h1 (ev_pos (by omega) (ev_bind (dcol_ev V n (k + 1) (by omega) hn k out [] s (by omega) ho (by simp; omega) V.s0 hs) h))
  · rw [if_neg h1] at h
    exact ev_neg h1 h
theorem dwrd_l0 {L s : Int} {fin : List Bool} {next : List (List Int)} (V : VA L s fin next) (n : Int) (hn : n ≤ 1000) : ∀ (d k : Nat) (out : List ByteArray), 2049 - k = d → k ≤ 2049 →
    Ev (fun K => dfa_Words.l0 K n out (El fin next (if k = 0 then 1 else k)) (k : Int) L s fin next) (wloop fin next s n d k out) := by
  intro d
  have J2 : ∀ (b : Bool) (ends : List (List Bool)) (x : Int) (out : List ByteArray), b = false → Ev (fun K => dfa_Words.j2 K n out ends x b L s fin next) out := fun b ends x out e => Ev.step (fun _ => rfl) (ev_neg (by simp [e]) (ev_some _))
  induction d with
  | zero =>
    intro k out hd hk
    refine Ev.step (fun _ => rfl) ?_
    by_cases h1 : (out.length : Int) < n
    · exact ev_pos h1 (J2 _ _ _ _ (decide_eq_false (by omega)))
    · exact ev_neg h1 (J2 _ _ _ _ rfl)
  | succ d ih =>
    intro k out hd hk
    refine Ev.step (fun _ => rfl) ?_
    unfold wloop
    by_cases h1 : (out.length : Int) < n
    · rw [if_pos h1]
      refine ev_pos h1 ?_
      have IH := ih (k + 1) (if rdOf false (E fin next k) s = true then col fin next n k out [] s else out) (by omega) (by omega)
      rw [if_neg (show ¬ (k + 1 = 0) by omega)] at IH
      have H5 := dwrd_j5 V n hn out k (by omega) h1 _ IH
      have K2 : ∀ b : Bool, b = true → Ev (fun K => dfa_Words.j2 K n out (El fin next (if k = 0 then 1 else k)) (k : Int) b L s fin next) (wloop fin next s n d (k + 1) (if rdOf false (E fin next k) s = true then col fin next n k out [] s else out)) := by
        intro b e
        refine Ev.step (fun _ => rfl) (ev_pos e ?_)
        cases k with
        | zero =>
          refine ev_neg (by omega) ?_
          exact H5
        | succ k =>
          have hn5 := V.n5
          refine ev_pos (by omega) (ev_pos (by omega) (ev_pos (by omega) (ev_bind0 rfl ?_)))
          rw [if_neg (show ¬ (k + 1 = 0) by omega)]
          have := dwrd_l1 V n out k (by omega) _ H5 _ 0 rfl (by omega)
          rw [List.take_zero, List.drop_zero, List.nil_append] at this
          rw [List.length_replicate]
          exact this
      exact K2 _ (decide_eq_true (by omega))
    · rw [if_neg h1]
      exact ev_neg h1 (J2 _ _ _ _ rfl)
theorem dWords_ev (L s : Int) (fin : List Bool) (next : List (List Int)) (n : Int) : Ev (fun k => dfa_Words.f k L s fin next n) (if valE L s fin next = 0 ∧ 0 ≤ n ∧ n ≤ 200 then wordsE fin next s n else []) := by
  have J : ∀ b : Bool, b = true → Ev (fun k => dfa_Words.j0 k n b L s fin next) [] := fun b e => Ev.step (fun _ => rfl) (ev_pos e (ev_some _))
  refine ev_bind (dval_ev _ _ _ _) ?_
  by_cases hv : valE L s fin next = 0
  · refine ev_pos hv ?_
    have V := VA.of hv
    by_cases h1 : n < 0
    · rw [if_neg (by omega)]
      exact ev_pos h1 (J true rfl)
    · refine ev_neg h1 ?_
      by_cases h2 : n > 200
      · rw [if_neg (by omega)]
        exact J _ (decide_eq_true h2)
      · rw [if_pos ⟨hv, by omega, by omega⟩]
        have K : ∀ b : Bool, b = false → Ev (fun k => dfa_Words.j0 k n b L s fin next) (wordsE fin next s n) := by
          intro b e
          have hn5 := V.n5
          refine Ev.step (fun _ => rfl) (ev_neg (by simp [e]) (ev_bind0 rfl (ev_pos (by simp; omega) ?_)))
          exact dwrd_l0 V n (by omega) 2049 0 [] rfl (by omega)
        exact K _ (decide_eq_false h2)
  · rw [if_neg (fun h => hv h.1)]
    exact ev_neg hv (J true rfl)

/-- A search: the states in the order in which they are met, from where and by which letter, and their numbers. -/
structure SS where
  o : List Int
  f : List Int
  l : List Int
  m : List Int
def sk (i a : Int) (S : SS) (q : Int) : SS :=
  if rd S.m q < 0 then ⟨S.o ++ [q], S.f ++ [i], S.l ++ [a], S.m.set q.toNat (S.o.length : Int)⟩ else S
def srow (i : Int) : Nat → List Int → SS → SS
  | _, [], S => S
  | a, q :: row, S => srow i (a + 1) row (sk i (a : Int) S q)
def sgo (next : List (List Int)) : Nat → Nat → SS → SS
  | 0, _, S => S
  | d + 1, i, S => if i < S.o.length then sgo next d (i + 1) (srow (i : Int) 0 (rd_L1 next (rd S.o (i : Int))) S) else S
def s0 (n : Nat) (s : Int) : SS := ⟨[s], [-1], [-1], (List.replicate n (-1)).set s.toNat 0⟩
def srch (s : Int) (fin : List Bool) (next : List (List Int)) : SS := sgo next fin.length 0 (s0 fin.length s)
def plc : List Int → Nat → List Int → List Int
  | [], _, m => m
  | q :: o, i, m => plc o (i + 1) (m.set q.toNat (i : Int))
theorem plc_snoc (q : Int) : ∀ (o : List Int) (i : Nat) (m : List Int), plc (o ++ [q]) i m = (plc o i m).set q.toNat ((i + o.length : Nat) : Int)
  | [], i, m => rfl
  | p :: o, i, m => by
    show plc (o ++ [q]) (i + 1) _ = (plc o (i + 1) _).set q.toNat _
    rw [plc_snoc q o, show i + 1 + o.length = i + (p :: o).length from by simp; omega]
def ngc (m : List Int) : Nat := m.countP (fun x => decide (x < 0))
theorem ngc_set (m : List Int) (q v : Int) (h0 : 0 ≤ q) (h1 : q < (m.length : Int)) (hn : rd m q < 0) (hv : 0 ≤ v) : ngc (m.set q.toNat v) + 1 = ngc m := by
  obtain ⟨j, rfl⟩ : ∃ j : Nat, q = (j : Int) := ⟨q.toNat, by omega⟩
  have hj : j < m.length := by omega
  rw [rd_at m j hj] at hn
  unfold ngc
  rw [Int.toNat_natCast, List.countP_set hj]
  have hp : 0 < m.countP (fun x => decide (x < 0)) := List.countP_pos_iff.2 ⟨m[j], List.getElem_mem hj, by simpa using hn⟩
  simp only [hn, decide_true, if_true, show ¬ v < 0 by omega, decide_false]
  simp
  omega
structure SI (n : Nat) (L : Int) (S : SS) : Prop where
  ml : S.m.length = n
  ob : ∀ q ∈ S.o, 0 ≤ q ∧ q < (n : Int)
  cn : S.o.length + ngc S.m = n
  fl : S.f.length = S.o.length
  ll : S.l.length = S.o.length
  mp : S.m = plc S.o 0 (List.replicate n (-1))
  fb : ∀ j (h : j < S.f.length), 0 < j → 0 ≤ S.f[j] ∧ S.f[j] < (j : Int)
  lb : ∀ j (h : j < S.l.length), 0 < j → 0 ≤ S.l[j] ∧ S.l[j] < L
  pos : 0 < S.o.length
theorem SI.lt {n : Nat} {L : Int} {S : SS} (h : SI n L S) : S.o.length ≤ n := by have := h.cn; omega
theorem SI.start {n : Nat} {L s : Int} (h0 : 0 ≤ s) (h1 : s < (n : Int)) : SI n L (s0 n s) := by
  refine ⟨by simp [s0], fun q hq => ?_, ?_, rfl, rfl, rfl, fun j h hj => ?_, fun j h hj => ?_, by simp [s0]⟩
  · simp only [s0, List.mem_singleton] at hq
    omega
  · have := ngc_set (List.replicate n (-1)) s 0 h0 (by simpa using h1) (by
      obtain ⟨j, rfl⟩ : ∃ j : Nat, s = (j : Int) := ⟨s.toNat, by omega⟩
      rw [rd_at _ j (by simp; omega)]
      simp) (by omega)
    have h2 : ngc (List.replicate n (-1)) = n := by simp [ngc, List.countP_replicate]
    show 1 + ngc ((List.replicate n (-1)).set s.toNat 0) = n
    omega
  · simp [s0] at h; omega
  · simp [s0] at h; omega
theorem SI.step {n : Nat} {L : Int} {S : SS} (h : SI n L S) {i a q : Int} (hi : 0 ≤ i) (hi' : i < (S.o.length : Int)) (ha : 0 ≤ a ∧ a < L) (hq : 0 ≤ q ∧ q < (n : Int)) : SI n L (sk i a S q) := by
  unfold sk
  split
  · rename_i hn
    refine ⟨by simp [h.ml], fun p hp => ?_, ?_, ?_, ?_, ?_, ?_, ?_, ?_⟩
    · rcases List.mem_append.1 hp with hp | hp
      · exact h.ob p hp
      · rw [List.mem_singleton] at hp; omega
    · have := ngc_set S.m q (S.o.length : Int) hq.1 (by rw [h.ml]; exact hq.2) hn (by omega)
      have := h.cn
      show (S.o ++ [q]).length + ngc (S.m.set q.toNat _) = n
      rw [List.length_append, List.length_singleton]
      omega
    · show (S.f ++ [i]).length = (S.o ++ [q]).length
      rw [List.length_append, List.length_append, h.fl]; rfl
    · show (S.l ++ [a]).length = (S.o ++ [q]).length
      rw [List.length_append, List.length_append, h.ll]; rfl
    · show S.m.set q.toNat _ = plc (S.o ++ [q]) 0 _
      rw [plc_snoc, ← h.mp, Nat.zero_add]
    · intro j hj hp
      show 0 ≤ (S.f ++ [i])[j] ∧ (S.f ++ [i])[j] < (j : Int)
      by_cases e : j < S.f.length
      · rw [List.getElem_append_left e]; exact h.fb j e hp
      · simp only [List.length_append, List.length_singleton] at hj
        rw [List.getElem_append_right (by omega)]
        have := h.fl
        simp; omega
    · intro j hj hp
      show 0 ≤ (S.l ++ [a])[j] ∧ (S.l ++ [a])[j] < L
      by_cases e : j < S.l.length
      · rw [List.getElem_append_left e]; exact h.lb j e hp
      · simp only [List.length_append, List.length_singleton] at hj
        rw [List.getElem_append_right (by omega)]
        simp; omega
    · show 0 < (S.o ++ [q]).length
      simp
  · exact h
theorem sk_pre (i a : Int) (S : SS) (q : Int) : S.o <+: (sk i a S q).o := by
  unfold sk
  split
  · exact List.prefix_append _ _
  · exact List.prefix_refl _
theorem srow_pre (i : Int) : ∀ (row : List Int) (a : Nat) (S : SS), S.o <+: (srow i a row S).o
  | [], _, S => List.prefix_refl _
  | q :: row, a, S => (sk_pre i a S q).trans (srow_pre i row (a + 1) _)
theorem SI.row {n : Nat} {L : Int} {i : Int} : ∀ (row : List Int) (a : Nat) (S : SS), SI n L S → 0 ≤ i → i < (S.o.length : Int) → ((a + row.length : Nat) : Int) ≤ L → (∀ q ∈ row, 0 ≤ q ∧ q < (n : Int)) → SI n L (srow i a row S)
  | [], _, S, h, _, _, _, _ => h
  | q :: row, a, S, h, hi, hi', ha, hq => by
    have hp := (sk_pre i (a : Int) S q).length_le
    simp only [List.length_cons] at ha
    exact SI.row row (a + 1) _ (h.step hi hi' ⟨by omega, by omega⟩ (hq q (by simp))) hi (by omega) (by omega) (fun p hp => hq p (List.mem_cons_of_mem _ hp))
theorem rd_pre {l l' : List Int} (h : l <+: l') {i : Int} (h0 : 0 ≤ i) (h1 : i < (l.length : Int)) : rd l' i = rd l i := by
  obtain ⟨t, rfl⟩ := h
  obtain ⟨j, rfl⟩ : ∃ j : Nat, i = (j : Int) := ⟨i.toNat, by omega⟩
  have hj : j < l.length := by omega
  rw [rd_at _ j (by simp; omega), rd_at _ j hj, List.getElem_append_left hj]
theorem SI.go {n : Nat} {L : Int} {next : List (List Int)} (hn : next.length = n) (hv : ∀ row ∈ next, (row.length : Int) = L ∧ ∀ q ∈ row, 0 ≤ q ∧ q < (n : Int)) : ∀ (d i : Nat) (S : SS), SI n L S → SI n L (sgo next d i S) := by
  intro d
  induction d with
  | zero => intro i S h; exact h
  | succ d ih =>
    intro i S h
    unfold sgo
    split
    · rename_i hi
      refine ih (i + 1) _ ?_
      have hb := h.ob _ (List.getElem_mem hi)
      obtain ⟨q, hq⟩ : ∃ q : Nat, S.o[i] = (q : Int) := ⟨S.o[i].toNat, by omega⟩
      rw [rd_at S.o i hi, hq, rdL_at next q (by omega)]
      have hr := hv next[q] (List.getElem_mem _)
      exact SI.row _ 0 S h (by omega) (by omega) (by omega) hr.2
    · exact h
theorem SI.srch {L s : Int} {fin : List Bool} {next : List (List Int)} (h : valE L s fin next = 0) : SI fin.length L (srch s fin next) := by
  obtain ⟨v1, v2, v3, v4, v5, v6, v7, v8⟩ := valE_zero h
  exact SI.go v5 v8 _ _ _ (SI.start v6 v7)

def chr (a : Int) : ByteArray := strOfNums [(wrap64 (97 + a)) % 256]
theorem chr_size (a : Int) : (chr a).size = 1 := rfl
def wstep (ws : List ByteArray) (p : Int × Int) : List ByteArray := ws ++ [rdOf ByteArray.empty ws p.1 ++ chr p.2]
def wds (S : SS) : List ByteArray := (S.f.zip S.l).tail.foldl wstep [⟨#[]⟩]
def mt (m : List Int) : List Bool := m.map (fun x => decide (0 ≤ x))
structure WI (S : SS) : Prop where
  wl : (wds S).length = S.o.length
  wz : ∀ w ∈ wds S, w.size < S.o.length
theorem rdOf_at {α : Type} (d : α) (l : List α) (i : Nat) (h : i < l.length) : rdOf d l (i : Int) = l[i] := by simp [rdOf, List.getD, h]
theorem rdOf_pre {α : Type} (d : α) {l l' : List α} (h : l <+: l') {i : Int} (h0 : 0 ≤ i) (h1 : i < (l.length : Int)) : rdOf d l' i = rdOf d l i := by
  obtain ⟨t, rfl⟩ := h
  obtain ⟨j, rfl⟩ : ∃ j : Nat, i = (j : Int) := ⟨i.toNat, by omega⟩
  have hj : j < l.length := by omega
  rw [rdOf_at d _ j (by simp; omega), rdOf_at d _ j hj, List.getElem_append_left hj]
theorem wds_snoc {n : Nat} {L : Int} {S : SS} (h : SI n L S) (i a q : Int) (hn : rd S.m q < 0) : wds (sk i a S q) = wds S ++ [rdOf ByteArray.empty (wds S) i ++ chr a] := by
  unfold sk wds
  rw [if_pos hn]
  show ((S.f ++ [i]).zip (S.l ++ [a])).tail.foldl wstep _ = _
  rw [List.zip_append (by rw [h.fl, h.ll])]
  have hp := h.pos
  rw [List.tail_append_of_ne_nil (by
    intro e
    have := congrArg List.length e
    simp [h.fl, h.ll] at this
    rw [this] at hp
    simp at hp), List.foldl_append]
  rfl
theorem size_append (a b : ByteArray) : (a ++ b).size = a.size + b.size := by simp
theorem WI.step {n : Nat} {L : Int} {S : SS} (h : SI n L S) (w : WI S) (i a q : Int) (hi : 0 ≤ i) (hi' : i < (S.o.length : Int)) : WI (sk i a S q) := by
  by_cases hn : rd S.m q < 0
  · have e := wds_snoc h i a q hn
    have eo : (sk i a S q).o = S.o ++ [q] := by unfold sk; rw [if_pos hn]
    refine ⟨by rw [e, eo]; simp [w.wl], fun x hx => ?_⟩
    rw [e] at hx
    rw [eo, List.length_append, List.length_singleton]
    rcases List.mem_append.1 hx with hx | hx
    · have := w.wz x hx; omega
    · rw [List.mem_singleton] at hx
      obtain ⟨j, rfl⟩ : ∃ j : Nat, i = (j : Int) := ⟨i.toNat, by omega⟩
      have hj : j < (wds S).length := by rw [w.wl]; omega
      have := w.wz _ (List.getElem_mem hj)
      rw [hx, size_append, chr_size, rdOf_at _ _ j hj]
      omega
  · have e : sk i a S q = S := by unfold sk; rw [if_neg hn]
    rw [e]; exact w
theorem WI.row {n : Nat} {L : Int} {i : Int} : ∀ (row : List Int) (a : Nat) (S : SS), SI n L S → WI S → 0 ≤ i → i < (S.o.length : Int) → ((a + row.length : Nat) : Int) ≤ L → (∀ q ∈ row, 0 ≤ q ∧ q < (n : Int)) → WI (srow i a row S)
  | [], _, S, _, w, _, _, _, _ => w
  | q :: row, a, S, h, w, hi, hi', ha, hq => by
    have hp := (sk_pre i (a : Int) S q).length_le
    simp only [List.length_cons] at ha
    exact WI.row row (a + 1) _ (h.step hi hi' ⟨by omega, by omega⟩ (hq q (by simp))) (w.step h i _ q hi hi') hi (by omega) (by omega) (fun p hp => hq p (List.mem_cons_of_mem _ hp))
theorem WI.start (n : Nat) (s : Int) : WI (s0 n s) := ⟨rfl, fun w hw => by
  have : w = ⟨#[]⟩ := by simpa [wds, s0] using hw
  subst this
  show 0 < 1
  omega⟩
theorem mt_set (m : List Int) (q v : Int) (hv : 0 ≤ v) : mt (m.set q.toNat v) = (mt m).set q.toNat true := by
  unfold mt
  rw [List.map_set, decide_eq_true hv]
theorem mt_at {m : List Int} {q : Int} (h0 : 0 ≤ q) (h1 : q < (m.length : Int)) : rdOf false (mt m) q = decide (0 ≤ rd m q) := by
  obtain ⟨j, rfl⟩ : ∃ j : Nat, q = (j : Int) := ⟨q.toNat, by omega⟩
  have hj : j < m.length := by omega
  rw [rdOf_at _ _ j (by simp [mt]; omega), rd_at m j hj]
  simp [mt]
theorem WI.go {n : Nat} {L : Int} {next : List (List Int)} (hn : next.length = n) (hv : ∀ row ∈ next, (row.length : Int) = L ∧ ∀ q ∈ row, 0 ≤ q ∧ q < (n : Int)) : ∀ (d i : Nat) (S : SS), SI n L S → WI S → WI (sgo next d i S) := by
  intro d
  induction d with
  | zero => intro i S h w; exact w
  | succ d ih =>
    intro i S h w
    unfold sgo
    split
    · rename_i hi
      have hb := h.ob _ (List.getElem_mem hi)
      obtain ⟨q, hq⟩ : ∃ q : Nat, S.o[i] = (q : Int) := ⟨S.o[i].toNat, by omega⟩
      rw [rd_at S.o i hi, hq, rdL_at next q (by omega)]
      have hr := hv next[q] (List.getElem_mem _)
      exact ih (i + 1) _ (SI.row (i := (i : Int)) _ 0 S h (by omega) (by omega) (by omega) hr.2) (WI.row (i := (i : Int)) _ 0 S h w (by omega) (by omega) (by omega) hr.2)
    · exact w
theorem srch_WI {L s : Int} {fin : List Bool} {next : List (List Int)} (hv : valE L s fin next = 0) : WI (srch s fin next) := by
  obtain ⟨v1, v2, v3, v4, v5, v6, v7, v8⟩ := valE_zero hv
  exact WI.go v5 v8 _ _ _ (SI.start v6 v7) (WI.start _ _)

/-- A word's letters. -/
def lets (w : ByteArray) : List Int := (List.range w.size).map (fun i : Nat => (bt w (i : Int) - 97) % 256)
def wok (w : ByteArray) (L : Int) : Bool := (List.range w.size).all (fun i : Nat => decide (97 ≤ bt w (i : Int) ∧ (bt w (i : Int) - 97) % 256 < L))
def wvalid (w : ByteArray) (L : Int) : Bool := decide (1 ≤ L ∧ L ≤ 6 ∧ w.size ≤ 2048) && wok w L
def go1 (next : List (List Int)) (q a : Int) : Int := rd (rd_L1 next q) a
def runs (next : List (List Int)) (q : Int) (ls : List Int) : Int := ls.foldl (go1 next) q
theorem lets_length (w : ByteArray) : (lets w).length = w.size := by simp [lets]
theorem lets_at (w : ByteArray) (i : Nat) (h : i < (lets w).length) : (lets w)[i] = (bt w (i : Int) - 97) % 256 := by simp [lets]
theorem lets_ok {w : ByteArray} {L : Int} (h : wok w L = true) : ∀ a ∈ lets w, 0 ≤ a ∧ a < L := by
  intro a ha
  simp only [lets, List.mem_map, List.mem_range] at ha
  obtain ⟨i, hi, rfl⟩ := ha
  have := List.all_eq_true.1 h i (List.mem_range.2 hi)
  simp only [decide_eq_true_eq] at this
  exact ⟨by omega, this.2⟩

theorem go1_ok {next : List (List Int)} {L n : Int} (hv : ∀ row ∈ next, (row.length : Int) = L ∧ ∀ q ∈ row, 0 ≤ q ∧ q < n) {q a : Int} (h0 : 0 ≤ q) (h1 : q < (next.length : Int)) (a0 : 0 ≤ a) (a1 : a < L) : ((rd_L1 next q).length : Int) = L ∧ 0 ≤ go1 next q a ∧ go1 next q a < n := by
  obtain ⟨m, rfl⟩ : ∃ m : Nat, q = (m : Int) := ⟨q.toNat, by omega⟩
  obtain ⟨c, rfl⟩ : ∃ c : Nat, a = (c : Int) := ⟨a.toNat, by omega⟩
  have hm : m < next.length := by omega
  unfold go1
  rw [rdL_at next m hm]
  obtain ⟨h2, h3⟩ := hv next[m] (List.getElem_mem hm)
  have hc : c < next[m].length := by omega
  rw [rd_at _ c hc]
  exact ⟨h2, h3 _ (List.getElem_mem hc)⟩
theorem runs_ok {next : List (List Int)} {L : Int} (hv : ∀ row ∈ next, (row.length : Int) = L ∧ ∀ q ∈ row, 0 ≤ q ∧ q < (next.length : Int)) : ∀ (ls : List Int) (q : Int), 0 ≤ q → q < (next.length : Int) → (∀ a ∈ ls, 0 ≤ a ∧ a < L) → 0 ≤ runs next q ls ∧ runs next q ls < (next.length : Int)
  | [], q, h0, h1, _ => ⟨h0, h1⟩
  | a :: ls, q, h0, h1, h => by
    have ha := h a (by simp)
    have hg := (go1_ok hv h0 h1 ha.1 ha.2).2
    exact runs_ok hv ls (go1 next q a) hg.1 hg.2 (fun b hb => h b (List.mem_cons_of_mem _ hb))

/-- Numbers that are bytes. -/
def Byt (xs : List Int) : Prop := ∀ x ∈ xs, 0 ≤ x ∧ x < 256
theorem byt_of (s : ByteArray) : Byt (bytesOf s) := by
  intro x hx
  obtain ⟨b, _, rfl⟩ := List.mem_map.1 hx
  have := b.toNat_lt
  omega
theorem of_str {xs : List Int} (h : Byt xs) : bytesOf (strOfNums xs) = xs := by
  rw [bytesOf, strOfNums_data, List.map_map]
  refine (List.map_congr_left (fun x hx => ?_)).trans (List.map_id _)
  have := h x hx
  simp only [Function.comp, UInt8.toNat_ofNat', id]
  omega
theorem str_of (s : ByteArray) : strOfNums (bytesOf s) = s := by
  have h : (strOfNums (bytesOf s)).data.toList = s.data.toList := by
    rw [strOfNums_data, bytesOf, List.map_map]
    refine (List.map_congr_left (fun x hx => ?_)).trans (List.map_id _)
    simp
  cases s
  exact congrArg ByteArray.mk (Array.toList_inj.1 h)
theorem of_inj {a b : ByteArray} (h : bytesOf a = bytesOf b) : a = b := by rw [← str_of a, h, str_of]
theorem toList_inj {a b : ByteArray} : a.toList = b.toList ↔ a = b := by
  refine ⟨fun h => ?_, fun h => by rw [h]⟩
  rw [ByteArray.toList_eq, ByteArray.toList_eq] at h
  cases a
  cases b
  exact congrArg ByteArray.mk (Array.toList_inj.1 h)
theorem str_eq {xs : List Int} (h : Byt xs) (s : ByteArray) : ((strOfNums xs).toList == s.toList) = decide (xs = bytesOf s) := by
  rw [Bool.eq_iff_iff, beq_iff_eq, decide_eq_true_eq, toList_inj]
  exact ⟨fun e => by rw [← e, of_str h], fun e => by rw [e, str_of]⟩
theorem bt_at (s : ByteArray) (i : Nat) (h : i < s.size) : bt s i = (bytesOf s)[i]'(by rw [bytesOf_length]; exact h) := by
  rw [bt, dif_pos (by simpa using h)]
  simp [bytesOf]
  rfl
/-- The letters of a word. -/
def Let (xs : List Int) (n : Int) : Prop := ∀ x ∈ xs, 97 ≤ x ∧ x < 97 + n
theorem Let.byt {xs : List Int} {n : Int} (h : Let xs n) (hn : n ≤ 6) : Byt xs := fun x hx => by have := h x hx; omega

/-- Shortlex order of two words: less, equal, greater. -/
def cmpW (a b : ByteArray) : Int := if a.size < b.size then -1 else if b.size < a.size then 1 else if Op.bytesLess a.toList b.toList = true then -1 else if Op.bytesLess b.toList a.toList = true then 1 else 0
theorem toList_len (a : ByteArray) : a.toList.length = a.size := by
  rw [ByteArray.toList_eq]; rfl

def u8 (xs : List Int) : List UInt8 := xs.map fun n => UInt8.ofNat n.toNat
theorem str_toList (xs : List Int) : (strOfNums xs).toList = u8 xs := by rw [ByteArray.toList_eq, strOfNums_data]; rfl
theorem toList_u8 (s : ByteArray) : s.toList = u8 (bytesOf s) := by rw [← str_toList, str_of]
theorem bl_trans : ∀ {a b c : List UInt8}, Op.bytesLess a b = true → Op.bytesLess b c = true → Op.bytesLess a c = true
  | [], [], _, h, _ => by simp [Op.bytesLess] at h
  | [], _ :: _, [], _, h => by simp [Op.bytesLess] at h
  | [], _ :: _, _ :: _, _, _ => rfl
  | _ :: _, [], _, h, _ => by simp [Op.bytesLess] at h
  | _ :: _, _ :: _, [], _, h => by simp [Op.bytesLess] at h
  | x :: a, y :: b, z :: c, h, h' => by
    simp only [Op.bytesLess, Bool.or_eq_true, Bool.and_eq_true, decide_eq_true_eq, beq_iff_eq, UInt8.lt_iff_toNat_lt] at h h' ⊢
    rcases h with h | ⟨rfl, h⟩
    · rcases h' with h' | ⟨rfl, h'⟩
      · exact .inl (by omega)
      · exact .inl h
    · rcases h' with h' | ⟨rfl, h'⟩
      · exact .inl h'
      · exact .inr ⟨rfl, bl_trans h h'⟩
theorem bl_pre (p : List UInt8) {a b : List UInt8} (h : Op.bytesLess a b = true) : Op.bytesLess (p ++ a) (p ++ b) = true := by
  induction p with
  | nil => exact h
  | cons x p ih => simp [Op.bytesLess, ih]
theorem bl_suf : ∀ {a b : List UInt8} (s : List UInt8), a.length = b.length → Op.bytesLess a b = true → Op.bytesLess (a ++ s) (b ++ s) = true
  | [], [], _, _, h => by simp [Op.bytesLess] at h
  | [], _ :: _, _, h, _ => by simp at h
  | _ :: _, [], _, h, _ => by simp at h
  | x :: a, y :: b, s, hl, h => by
    simp only [List.cons_append, Op.bytesLess, Bool.or_eq_true, Bool.and_eq_true, decide_eq_true_eq, beq_iff_eq] at h ⊢
    rcases h with h | ⟨rfl, h⟩
    · exact .inl h
    · exact .inr ⟨rfl, bl_suf s (by simpa using hl) h⟩
/-- The shortlex order. -/
def Slx (a b : List Int) : Prop := a.length < b.length ∨ (a.length = b.length ∧ Op.bytesLess (u8 a) (u8 b) = true)
theorem Slx.trans {a b c : List Int} (h : Slx a b) (h' : Slx b c) : Slx a c := by
  rcases h with h | ⟨h, k⟩ <;> rcases h' with h' | ⟨h', k'⟩
  · exact .inl (by omega)
  · exact .inl (by omega)
  · exact .inl (by omega)
  · exact .inr ⟨by omega, bl_trans k k'⟩
theorem Slx.irrefl {a : List Int} (h : Slx a a) : False := by
  rcases h with h | ⟨_, h⟩
  · omega
  · rw [bl_irrefl] at h
    cases h
theorem Slx.put {a b : List Int} (h : Slx a b) (p s : List Int) : Slx (p ++ a ++ s) (p ++ b ++ s) := by
  rcases h with h | ⟨h, k⟩
  · exact .inl (by simp only [List.length_append]; omega)
  · refine .inr ⟨by simp only [List.length_append]; omega, ?_⟩
    simp only [u8, List.map_append] at k ⊢
    rw [List.append_assoc, List.append_assoc]
    exact bl_pre _ (bl_suf _ (by simpa using h) k)
theorem cmp_pos {a b : ByteArray} (h : 0 < cmpW a b) : Slx (bytesOf b) (bytesOf a) := by
  unfold cmpW at h
  unfold Slx
  rw [bytesOf_length, bytesOf_length, ← toList_u8, ← toList_u8]
  split at h
  · omega
  · split at h
    · exact .inl (by assumption)
    · split at h
      · omega
      · split at h
        · exact .inr ⟨by omega, by assumption⟩
        · omega
theorem cmp_neg {a b : ByteArray} (h : Slx (bytesOf a) (bytesOf b)) : cmpW a b ≤ 0 := by
  unfold Slx at h
  rw [bytesOf_length, bytesOf_length, ← toList_u8, ← toList_u8] at h
  unfold cmpW
  rcases h with h | ⟨h, k⟩
  · rw [if_pos h]; omega
  · rw [if_neg (by omega), if_neg (by omega), if_pos k]; omega
theorem cmp_self (a : ByteArray) : cmpW a a ≤ 0 := by
  unfold cmpW
  rw [if_neg (by omega), if_neg (by omega), if_neg (by rw [bl_irrefl]; simp), if_neg (by rw [bl_irrefl]; simp)]
  omega
theorem Slx.asymm {a b : List Int} (h : Slx a b) (h' : Slx b a) : False := (h.trans h').irrefl

theorem chr_bytes {a : Int} (h0 : 0 ≤ a) (h1 : a < 6) : bytesOf (chr a) = [97 + a] := by
  have e : wrap64 (97 + a) % 256 = 97 + a := by rw [wrap_in (by omega) (by omega)]; omega
  unfold chr
  rw [e, of_str (fun x hx => by rw [List.mem_singleton] at hx; omega)]
theorem bytes_append (a b : ByteArray) : bytesOf (a ++ b) = bytesOf a ++ bytesOf b := by simp [bytesOf]
/-- Letters of bytes. -/
def letB (xs : List Int) : List Int := xs.map (fun b => (b - 97) % 256)
theorem lets_eq (w : ByteArray) : lets w = letB (bytesOf w) := by
  apply List.ext_getElem
  · rw [lets_length]; simp [letB, bytesOf_length]
  · intro i h1 h2
    rw [lets_at]
    simp only [letB, List.getElem_map]
    rw [bt_at w i (by rw [lets_length] at h1; exact h1)]
theorem bl_app : ∀ {a b : List UInt8} (s t : List UInt8), a.length = b.length → Op.bytesLess a b = true → Op.bytesLess (a ++ s) (b ++ t) = true
  | [], [], _, _, _, h => by simp [Op.bytesLess] at h
  | [], _ :: _, _, _, h, _ => by simp at h
  | _ :: _, [], _, _, h, _ => by simp at h
  | x :: a, y :: b, s, t, hl, h => by
    simp only [List.cons_append, Op.bytesLess, Bool.or_eq_true, Bool.and_eq_true, decide_eq_true_eq, beq_iff_eq] at h ⊢
    rcases h with h | ⟨rfl, h⟩
    · exact .inl h
    · exact .inr ⟨rfl, bl_app s t (by simpa using hl) h⟩
theorem Slx.app {u v : List Int} (h : Slx u v) (x y : Int) : Slx (u ++ [x]) (v ++ [y]) := by
  rcases h with h | ⟨h, k⟩
  · exact .inl (by simp; omega)
  · refine .inr ⟨by simp [h], ?_⟩
    simp only [u8, List.map_append] at k ⊢
    exact bl_app _ _ (by simpa using h) k
theorem Slx.last {u : List Int} {x y : Int} (h0 : 0 ≤ x) (h : x < y) (hy : y < 256) : Slx (u ++ [x]) (u ++ [y]) := by
  refine .inr ⟨by simp, ?_⟩
  simp only [u8, List.map_append, List.map_cons, List.map_nil]
  refine bl_pre _ ?_
  simp only [Op.bytesLess, Bool.or_eq_true, decide_eq_true_eq]
  refine .inl ?_
  rw [UInt8.lt_iff_toNat_lt, UInt8.toNat_ofNat', UInt8.toNat_ofNat']
  omega
theorem Slx.nil {v : List Int} (h : v ≠ []) : Slx [] v := by
  cases v with
  | nil => exact absurd rfl h
  | cons x v => exact .inl (by simp)
/-- The word of a state of the search, as bytes. -/
def W (S : SS) (j : Nat) : List Int := bytesOf (rdOf ByteArray.empty (wds S) (j : Int))
structure BC (next : List (List Int)) (L s : Int) (S : SS) (i a : Nat) : Prop where
  w0 : W S 0 = []
  o0 : rd S.o 0 = s
  asc : ∀ j k : Nat, j < k → k < S.o.length → Slx (W S j) (W S k)
  run : ∀ j : Nat, j < S.o.length → runs next s (letB (W S j)) = rd S.o (j : Int)
  let' : ∀ j : Nat, j < S.o.length → Let (W S j) L
  cmp : ∀ i' a' : Nat, i' < S.o.length → (a' : Int) < L → (i' < i ∨ i' = i ∧ a' < a) → ∃ j : Nat, j < S.o.length ∧ rd S.o (j : Int) = go1 next (rd S.o (i' : Int)) (a' : Int) ∧ ¬ Slx (W S i' ++ [97 + (a' : Int)]) (W S j)
  nm : ∀ j : Nat, j < S.o.length → rd S.m (rd S.o (j : Int)) = (j : Int)
  mn : ∀ q : Int, 0 ≤ q → q < (S.m.length : Int) → 0 ≤ rd S.m q → rd S.m q < (S.o.length : Int) ∧ rd S.o (rd S.m q) = q
  par : ∀ j : Nat, 0 < j → j < S.o.length → rdOf ByteArray.empty (wds S) (j : Int) = rdOf ByteArray.empty (wds S) (rd S.f (j : Int)) ++ chr (rd S.l (j : Int))
def BCur (S : SS) (i a : Nat) : Prop := ∀ j : Nat, j < S.o.length → Slx (W S j) (W S i ++ [97 + (a : Int)])

theorem BC.step {next : List (List Int)} {n : Nat} {L s : Int} {S : SS} {i a : Nat} (hS : SI n L S) (w : WI S) (h : BC next L s S i a) (hc : BCur S i a) (hi : i < S.o.length) (ha : (a : Int) < L) (hL : L ≤ 6) (q : Int) (hq : 0 ≤ q ∧ q < (n : Int)) (hqe : q = go1 next (rd S.o (i : Int)) (a : Int)) :
    BC next L s (sk (i : Int) (a : Int) S q) i (a + 1) ∧ BCur (sk (i : Int) (a : Int) S q) i (a + 1) := by
  have hml := hS.ml
  by_cases hn : rd S.m q < 0
  · have e := wds_snoc hS (i : Int) (a : Int) q hn
    have eS : sk (i : Int) (a : Int) S q = ⟨S.o ++ [q], S.f ++ [(i : Int)], S.l ++ [(a : Int)], S.m.set q.toNat (S.o.length : Int)⟩ := by unfold sk; rw [if_pos hn]
    generalize hS' : sk (i : Int) (a : Int) S q = S' at e eS
    have eo : S'.o = S.o ++ [q] := by rw [eS]
    have ef : S'.f = S.f ++ [(i : Int)] := by rw [eS]
    have el : S'.l = S.l ++ [(a : Int)] := by rw [eS]
    have em : S'.m = S.m.set q.toNat (S.o.length : Int) := by rw [eS]
    have hol : S'.o.length = S.o.length + 1 := by rw [eo]; simp
    have hwl := w.wl
    have hfl := hS.fl
    have hll := hS.ll
    have wold : ∀ j : Nat, j < S.o.length → rdOf ByteArray.empty (wds S') (j : Int) = rdOf ByteArray.empty (wds S) (j : Int) := fun j hj => by
      rw [e]; exact rdOf_pre _ (List.prefix_append _ _) (by omega) (by omega)
    have Wold : ∀ j : Nat, j < S.o.length → W S' j = W S j := fun j hj => by unfold W; rw [wold j hj]
    have wnew : rdOf ByteArray.empty (wds S') (S.o.length : Int) = rdOf ByteArray.empty (wds S) (i : Int) ++ chr (a : Int) := by
      rw [e, rdOf_at _ _ _ (by simp; omega), List.getElem_append_right (by omega)]
      simp [hwl]
    have Wnew : W S' S.o.length = W S i ++ [97 + (a : Int)] := by
      unfold W
      rw [wnew, bytes_append, chr_bytes (by omega) (by omega)]
    have oold : ∀ j : Nat, j < S.o.length → rd S'.o (j : Int) = rd S.o (j : Int) := fun j hj => by
      rw [eo]; exact rd_pre (List.prefix_append _ _) (by omega) (by omega)
    have onew : rd S'.o (S.o.length : Int) = q := by rw [eo, rd_app]
    have hin : ∀ j : Nat, j < S'.o.length → j < S.o.length ∨ j = S.o.length := fun j hj => by omega
    have hmset : ∀ p : Int, 0 ≤ p → p < (S.m.length : Int) → rd S'.m p = if q = p then (S.o.length : Int) else rd S.m p := fun p h0 h1 => by
      obtain ⟨x, rfl⟩ := Int.eq_ofNat_of_zero_le hq.1
      obtain ⟨y, rfl⟩ := Int.eq_ofNat_of_zero_le h0
      rw [em]
      simp only [Int.toNat_natCast, rd, List.getD_eq_getElem?_getD, List.getElem?_set]
      by_cases hxy : x = y
      · subst hxy
        have hl' : x < S.m.length := by omega
        simp [hl']
      · have h' : ¬ ((x : Int) = (y : Int)) := by omega
        rw [if_neg hxy, if_neg h']
    have hlast : Slx (W S i ++ [97 + (a : Int)]) (W S i ++ [97 + ((a + 1 : Nat) : Int)]) := Slx.last (by omega) (by omega) (by omega)
    have hob : ∀ j : Nat, j < S.o.length → 0 ≤ rd S.o (j : Int) ∧ rd S.o (j : Int) < (n : Int) := fun j hj => by
      rw [rd_at S.o j hj]; exact hS.ob _ (List.getElem_mem hj)
    refine ⟨⟨?_, ?_, ?_, ?_, ?_, ?_, ?_, ?_, ?_⟩, ?_⟩
    · rw [Wold 0 hS.pos]; exact h.w0
    · have := oold 0 hS.pos
      simpa using this.trans (by simpa using h.o0)
    · intro j k hjk hk
      rcases hin k hk with hk | rfl
      · rw [Wold j (by omega), Wold k hk]; exact h.asc j k hjk hk
      · rw [Wold j hjk, Wnew]; exact hc j hjk
    · intro j hj
      rcases hin j hj with hj | rfl
      · rw [Wold j hj, oold j hj]; exact h.run j hj
      · rw [Wnew, onew]
        have := h.run i hi
        unfold runs letB at this ⊢
        rw [List.map_append, List.foldl_append, this, hqe]
        simp only [List.map_cons, List.map_nil, List.foldl_cons, List.foldl_nil]
        rw [show (97 + (a : Int) - 97) % 256 = (a : Int) by omega]
    · intro j hj
      rcases hin j hj with hj | rfl
      · rw [Wold j hj]; exact h.let' j hj
      · rw [Wnew]
        intro x hx
        rcases List.mem_append.1 hx with hx | hx
        · exact h.let' i hi x hx
        · rw [List.mem_singleton] at hx; omega
    · intro i' a' hi' ha' hlt
      have hi'' : i' < S.o.length := by omega
      rw [oold i' hi'', Wold i' hi'']
      rcases (show (i' < i ∨ i' = i ∧ a' < a) ∨ i' = i ∧ a' = a by omega) with hlt | ⟨rfl, rfl⟩
      · obtain ⟨j, hj, h1, h2⟩ := h.cmp i' a' hi'' ha' hlt
        exact ⟨j, by omega, by rw [oold j hj]; exact h1, by rw [Wold j hj]; exact h2⟩
      · exact ⟨S.o.length, by omega, by rw [onew]; exact hqe, by rw [Wnew]; exact fun h => h.irrefl⟩
    · intro j hj
      rcases hin j hj with hj | rfl
      · have hb := hob j hj
        rw [oold j hj, hmset _ hb.1 (by omega)]
        have := h.nm j hj
        rw [if_neg]
        · exact this
        · rintro rfl
          omega
      · rw [onew, hmset q hq.1 (by omega), if_pos rfl]
    · intro p h0 h1 h2
      rw [em, List.length_set] at h1
      rw [hmset p h0 h1] at h2 ⊢
      by_cases hp : q = p
      · rw [if_pos hp]
        exact ⟨by omega, by rw [onew]; exact hp⟩
      · rw [if_neg hp] at h2 ⊢
        have := h.mn p h0 h1 h2
        obtain ⟨y, hy⟩ := Int.eq_ofNat_of_zero_le h2
        rw [hy] at this ⊢
        exact ⟨by omega, by rw [oold y (by omega)]; exact this.2⟩
    · intro j hj hj'
      rcases hin j hj' with hj' | rfl
      · have hfb := hS.fb j (by omega) hj
        rw [wold j hj', h.par j hj hj', ef, el, rd_pre (List.prefix_append _ _) (by omega) (by omega), rd_pre (List.prefix_append _ _) (by omega) (by omega)]
        rw [← rd_at S.f j (by omega)] at hfb
        obtain ⟨y, hy⟩ := Int.eq_ofNat_of_zero_le hfb.1
        rw [hy] at hfb ⊢
        rw [wold y (by omega)]
      · rw [wnew, ef, el, ← hfl, rd_app, hfl, ← hll, rd_app, wold i hi]
    · intro j hj
      rw [Wold i hi]
      rcases hin j hj with hj | rfl
      · rw [Wold j hj]; exact (hc j hj).trans hlast
      · rw [Wnew]; exact hlast
  · have e : sk (i : Int) (a : Int) S q = S := by unfold sk; rw [if_neg hn]
    rw [e]
    have hlast : Slx (W S i ++ [97 + (a : Int)]) (W S i ++ [97 + ((a + 1 : Nat) : Int)]) := Slx.last (by omega) (by omega) (by omega)
    refine ⟨⟨h.w0, h.o0, h.asc, h.run, h.let', ?_, h.nm, h.mn, h.par⟩, fun j hj => (hc j hj).trans hlast⟩
    intro i' a' hi' ha' hlt
    rcases (show (i' < i ∨ i' = i ∧ a' < a) ∨ i' = i ∧ a' = a by omega) with hlt | ⟨rfl, rfl⟩
    · exact h.cmp i' a' hi' ha' hlt
    · have := h.mn q hq.1 (by omega) (by omega)
      obtain ⟨y, hy⟩ := Int.eq_ofNat_of_zero_le (show 0 ≤ rd S.m q by omega)
      rw [hy] at this
      exact ⟨y, by omega, by rw [this.2]; exact hqe, fun hh => (hc y (by omega)).asymm hh⟩
theorem BC.row {next : List (List Int)} {n : Nat} {L s : Int} {i : Nat} (hL : L ≤ 6) (x : Int) : ∀ (row : List Int) (a : Nat) (S : SS), SI n L S → WI S → BC next L s S i a → BCur S i a → i < S.o.length → ((a + row.length : Nat) : Int) = L → (∀ q ∈ row, 0 ≤ q ∧ q < (n : Int)) → rd S.o (i : Int) = x → (∀ j : Nat, (h : j < row.length) → row[j] = go1 next x ((a + j : Nat) : Int)) →
    BC next L s (srow (i : Int) a row S) i (a + row.length) ∧ BCur (srow (i : Int) a row S) i (a + row.length)
  | [], a, S, _, _, h, hc, _, _, _, _, _ => ⟨h, hc⟩
  | q :: row, a, S, hS, w, h, hc, hi, ha, hq, hx, hr => by
    have hp := (sk_pre (i : Int) (a : Int) S q)
    have hp' := hp.length_le
    simp only [List.length_cons] at ha
    have hqe : q = go1 next (rd S.o (i : Int)) (a : Int) := by rw [hx]; exact hr 0 (by simp)
    have st := BC.step hS w h hc hi (by omega) hL q (hq q (by simp)) hqe
    have := BC.row hL x row (a + 1) _ (hS.step (by omega) (by omega) ⟨by omega, by omega⟩ (hq q (by simp))) (w.step hS (i : Int) (a : Int) q (by omega) (by omega)) st.1 st.2 (by omega) (by omega) (fun p hp => hq p (List.mem_cons_of_mem _ hp)) (by rw [rd_pre hp (by omega) (by omega)]; exact hx)
      (fun j hj => by have := hr (j + 1) (by simp; omega); rw [List.getElem_cons_succ] at this; rw [this, show a + (j + 1) = a + 1 + j by omega])
    rw [List.length_cons, show a + (row.length + 1) = a + 1 + row.length by omega]
    exact this
theorem BC.go {next : List (List Int)} {n : Nat} {L s : Int} (hnl : next.length = n) (hL : L ≤ 6) (hv : ∀ row ∈ next, (row.length : Int) = L ∧ ∀ q ∈ row, 0 ≤ q ∧ q < (n : Int)) : ∀ (d i : Nat) (S : SS), n - i = d → SI n L S → WI S → BC next L s S i 0 → (i < S.o.length → BCur S i 0) →
    BC next L s (sgo next d i S) (sgo next d i S).o.length 0 := by
  intro d
  induction d with
  | zero =>
    intro i S hd hS hw h hc
    have hlt := hS.lt
    show BC next L s S S.o.length 0
    exact ⟨h.w0, h.o0, h.asc, h.run, h.let', fun i' a' h1 h2 _ => h.cmp i' a' h1 h2 (.inl (by omega)), h.nm, h.mn, h.par⟩
  | succ d ih =>
    intro i S hd hS hw h hc
    unfold sgo
    by_cases hi : i < S.o.length
    · rw [if_pos hi]
      have hb := hS.ob _ (List.getElem_mem hi)
      obtain ⟨q, hq⟩ : ∃ q : Nat, S.o[i] = (q : Int) := ⟨S.o[i].toNat, by omega⟩
      have e : rd S.o (i : Int) = (q : Int) := by rw [rd_at S.o i hi, hq]
      rw [hq] at hb
      have hr := hv next[q] (List.getElem_mem (by omega))
      rw [e, rdL_at next q (by omega)]
      have hS' := SI.row (i := (i : Int)) next[q] 0 S hS (by omega) (by omega) (by omega) hr.2
      have hw' := WI.row (i := (i : Int)) next[q] 0 S hS hw (by omega) (by omega) (by omega) hr.2
      have st := BC.row (s := s) hL (q : Int) next[q] 0 S hS hw h (hc hi) hi (by have := hr.1; omega) hr.2 e (fun j hj => by unfold go1; rw [rdL_at next q (by omega), Nat.zero_add, rd_at _ j hj])
      have hlen : ((0 + next[q].length : Nat) : Int) = L := by have := hr.1; omega
      refine ih (i + 1) _ (by omega) hS' hw' ?_ ?_
      · have h := st.1
        exact ⟨h.w0, h.o0, h.asc, h.run, h.let', fun i' a' h1 h2 h3 => h.cmp i' a' h1 h2 (by omega), h.nm, h.mn, h.par⟩
      · intro hi' j hj
        have h1 := st.2 j hj
        exact h1.trans (Slx.app (st.1.asc i (i + 1) (by omega) hi') _ _)
    · rw [if_neg hi]
      exact ⟨h.w0, h.o0, h.asc, h.run, h.let', fun i' a' h1 h2 _ => h.cmp i' a' h1 h2 (.inl (by omega)), h.nm, h.mn, h.par⟩
theorem BC.start {next : List (List Int)} {n : Nat} {L s : Int} (h0 : 0 ≤ s) (h1 : s < (n : Int)) : BC next L s (s0 n s) 0 0 ∧ BCur (s0 n s) 0 0 := by
  have hS := SI.start (L := L) h0 h1
  have hw : W (s0 n s) 0 = [] := rfl
  have hz : ∀ j : Nat, j < (s0 n s).o.length → j = 0 := fun j hj => by simp [s0] at hj; omega
  have hm : ∀ p : Int, 0 ≤ p → p < (n : Int) → rd (s0 n s).m p = if s = p then 0 else -1 := fun p h2 h3 => by
    obtain ⟨x, rfl⟩ := Int.eq_ofNat_of_zero_le h0
    obtain ⟨y, rfl⟩ := Int.eq_ofNat_of_zero_le h2
    show rd ((List.replicate n (-1)).set (x : Int).toNat 0) (y : Int) = _
    rw [Int.toNat_natCast, rd_at _ y (by simp; omega), List.getElem_set]
    by_cases hxy : x = y
    · subst hxy; simp
    · rw [if_neg hxy, if_neg (by omega)]; simp
  refine ⟨⟨hw, rfl, fun j k hjk hk => ?_, fun j hj => ?_, fun j hj => ?_, fun i' a' h2 h3 h4 => ?_, fun j hj => ?_, fun q h2 h3 h4 => ?_, fun j hj hj' => ?_⟩, fun j hj => ?_⟩
  · have := hz k hk; omega
  · rw [hz j hj]; rfl
  · rw [hz j hj, hw]
    intro x hx
    simp at hx
  · omega
  · rw [hz j hj]
    show rd (s0 n s).m s = 0
    rw [hm s h0 h1, if_pos rfl]
  · have h3' : q < (n : Int) := by simpa [s0] using h3
    rw [hm q h2 h3'] at h4 ⊢
    by_cases e : s = q
    · rw [if_pos e]
      exact ⟨by simp [s0], e⟩
    · rw [if_neg e] at h4; omega
  · have := hz j hj'; omega
  · rw [hz j hj, hw]
    exact Slx.nil (by simp)
theorem srch_BC {L s : Int} {fin : List Bool} {next : List (List Int)} (hv : valE L s fin next = 0) : BC next L s (srch s fin next) (srch s fin next).o.length 0 := by
  obtain ⟨v1, v2, v3, v4, v5, v6, v7, v8⟩ := valE_zero hv
  have := BC.start (next := next) (L := L) v6 v7
  exact BC.go v5 v2 v8 fin.length 0 _ rfl (SI.start v6 v7) (WI.start _ _) this.1 (fun _ => this.2)

theorem u8_inj : ∀ {a b : List Int}, Byt a → Byt b → u8 a = u8 b → a = b
  | [], [], _, _, _ => rfl
  | [], _ :: _, _, _, h => by simp [u8] at h
  | _ :: _, [], _, _, h => by simp [u8] at h
  | x :: a, y :: b, ha, hb, h => by
    simp only [u8, List.map_cons, List.cons.injEq] at h
    have hx := ha x (by simp)
    have hy := hb y (by simp)
    have e := congrArg UInt8.toNat h.1
    rw [UInt8.toNat_ofNat', UInt8.toNat_ofNat'] at e
    rw [show x = y by omega, u8_inj (fun z hz => ha z (by simp [hz])) (fun z hz => hb z (by simp [hz])) h.2]
theorem Slx.tri {a b : List Int} (ha : Byt a) (hb : Byt b) : Slx a b ∨ a = b ∨ Slx b a := by
  rcases Nat.lt_trichotomy a.length b.length with h | h | h
  · exact .inl (.inl h)
  · by_cases h1 : Op.bytesLess (u8 a) (u8 b) = true
    · exact .inl (.inr ⟨h, h1⟩)
    · by_cases h2 : Op.bytesLess (u8 b) (u8 a) = true
      · exact .inr (.inr (.inr ⟨h.symm, h2⟩))
      · exact .inr (.inl (u8_inj ha hb (bl_eq (by simpa using h1) (by simpa using h2))))
  · exact .inr (.inr (.inl h))
theorem cmp_lt {a b : ByteArray} (h : Slx (bytesOf a) (bytesOf b)) : cmpW a b = -1 := by
  unfold Slx at h
  rw [bytesOf_length, bytesOf_length, ← toList_u8, ← toList_u8] at h
  unfold cmpW
  rcases h with h | ⟨h, k⟩
  · rw [if_pos h]
  · rw [if_neg (by omega), if_neg (by omega), if_pos k]
theorem wok_of {w : ByteArray} {L : Int} (hL : L ≤ 6) (h : Let (bytesOf w) L) : wok w L = true := by
  unfold wok
  rw [List.all_eq_true]
  intro i hi
  rw [List.mem_range] at hi
  have := h _ (List.getElem_mem (show i < (bytesOf w).length by rw [bytesOf_length]; exact hi))
  rw [bt_at w i hi, decide_eq_true_eq]
  omega
theorem of_wok {w : ByteArray} {L : Int} (hL : L ≤ 6) (h : wok w L = true) : bytesOf w = (lets w).map (97 + ·) := by
  apply List.ext_getElem
  · rw [List.length_map, lets_length, bytesOf_length]
  · intro i h1 h2
    have hi : i < w.size := by rw [bytesOf_length] at h1; exact h1
    have h3 := List.all_eq_true.1 h i (List.mem_range.2 hi)
    rw [decide_eq_true_eq] at h3
    rw [List.getElem_map, lets_at, ← bt_at w i hi]
    have := byt_of w _ (List.getElem_mem h1)
    rw [← bt_at w i hi] at this
    omega
theorem bfs_least {next : List (List Int)} {L s : Int} {S : SS} (hL : L ≤ 6) (h : BC next L s S S.o.length 0) (hp : 0 < S.o.length) : ∀ (m : Nat) (ls : List Int), ls.length = m → (∀ a ∈ ls, 0 ≤ a ∧ a < L) →
    ∃ j : Nat, j < S.o.length ∧ rd S.o (j : Int) = runs next s ls ∧ ¬ Slx (ls.map (97 + ·)) (W S j) := by
  intro m
  induction m with
  | zero =>
    intro ls hl _
    rw [List.length_eq_zero_iff] at hl
    subst hl
    exact ⟨0, hp, h.o0, by rw [h.w0]; exact fun hh => hh.irrefl⟩
  | succ m ih =>
    intro ls hl ha
    have hne : ls ≠ [] := by rintro rfl; simp at hl
    obtain ⟨ls', a, rfl⟩ : ∃ ls' a, ls = ls' ++ [a] := ⟨ls.dropLast, ls.getLast hne, (List.dropLast_concat_getLast hne).symm⟩
    have haa := ha a (by simp)
    obtain ⟨i, hi, h1, h2⟩ := ih ls' (by simpa using hl) (fun b hb => ha b (by simp [hb]))
    obtain ⟨c, rfl⟩ := Int.eq_ofNat_of_zero_le haa.1
    obtain ⟨j, hj, h3, h4⟩ := h.cmp i c hi haa.2 (.inl hi)
    refine ⟨j, hj, ?_, ?_⟩
    · rw [h3, h1]; simp [runs]
    · rw [List.map_append, List.map_cons, List.map_nil]
      intro hh
      have hb1 : Byt (ls'.map (97 + ·)) := by
        intro x hx
        obtain ⟨y, hy, rfl⟩ := List.mem_map.1 hx
        have := ha y (by simp [hy])
        omega
      rcases Slx.tri hb1 ((h.let' i hi).byt hL) with h5 | h5 | h5
      · exact h2 h5
      · rw [h5] at hh; exact h4 hh
      · exact h4 ((h5.app _ _).trans hh)
theorem letB_Let {xs : List Int} {L : Int} (hL : L ≤ 6) (h : Let xs L) : ∀ a ∈ letB xs, 0 ≤ a ∧ a < L := by
  intro a ha
  obtain ⟨b, hb, rfl⟩ := List.mem_map.1 ha
  have := h b hb
  omega

def rowW (f : Int → List (List Int)) : Nat → List Int → List (List Int)
  | _, [] => []
  | a, t :: row => (f t).map (fun w => (97 + (a : Int)) :: w) ++ rowW f (a + 1) row
/-- The accepted words of a length from a state, as bytes, in order. -/
def AW (fin : List Bool) (next : List (List Int)) : Nat → Int → List (List Int)
  | 0, q => if rdOf false fin q = true then [[]] else []
  | k + 1, q => rowW (AW fin next k) 0 (rd_L1 next q)
theorem mem_rowW (f : Int → List (List Int)) (w : List Int) : ∀ (row : List Int) (a : Nat), w ∈ rowW f a row ↔ ∃ j, ∃ h : j < row.length, ∃ u ∈ f row[j], w = (97 + ((a + j : Nat) : Int)) :: u
  | [], a => by simp [rowW]
  | t :: row, a => by
    unfold rowW
    rw [List.mem_append, mem_rowW f w row (a + 1), List.mem_map]
    constructor
    · rintro (⟨u, hu, rfl⟩ | ⟨j, hj, u, hu, rfl⟩)
      · exact ⟨0, by simp, u, hu, rfl⟩
      · exact ⟨j + 1, by simp; omega, u, by simpa using hu, by rw [show a + 1 + j = a + (j + 1) by omega]⟩
    · rintro ⟨j, hj, u, hu, rfl⟩
      cases j with
      | zero => exact .inl ⟨u, by simpa using hu, rfl⟩
      | succ j => exact .inr ⟨j, by simpa using hj, u, by simpa using hu, by rw [show a + 1 + j = a + (j + 1) by omega]⟩
theorem rowW_ne (f : Int → List (List Int)) : ∀ (row : List Int) (a : Nat), rowW f a row ≠ [] ↔ ∃ t ∈ row, f t ≠ []
  | [], a => by simp [rowW]
  | t :: row, a => by
    have := rowW_ne f row (a + 1)
    unfold rowW
    rw [Ne, List.append_eq_nil_iff, List.map_eq_nil_iff]
    simp only [List.mem_cons, exists_eq_or_imp]
    rw [← this]
    by_cases h : f t = [] <;> simp [h]
section
variable {L s : Int} {fin : List Bool} {next : List (List Int)}
theorem eor_ex (e : List Bool) : ∀ (row : List Int) (b : Bool), eor e row b = true ↔ b = true ∨ ∃ t ∈ row, rdOf false e t = true
  | [], b => by simp [eor]
  | t :: row, b => by
    show eor e row (b || rdOf false e t) = true ↔ _
    rw [eor_ex e row]
    simp only [Bool.or_eq_true, List.mem_cons, exists_eq_or_imp, or_assoc]
theorem E_iff (V : VA L s fin next) : ∀ (k : Nat) (q : Int), 0 ≤ q → q < (fin.length : Int) → (rdOf false (E fin next k) q = true ↔ AW fin next k q ≠ [])
  | 0, q, _, _ => by
    show rdOf false fin q = true ↔ (if rdOf false fin q = true then [[]] else []) ≠ ([] : List (List Int))
    by_cases h : rdOf false fin q = true <;> simp [h]
  | k + 1, q, h0, h1 => by
    obtain ⟨y, rfl⟩ := Int.eq_ofNat_of_zero_le h0
    have hnl := V.nl
    have hr := V.rw next[y] (List.getElem_mem (by omega))
    show rdOf false (next.map (fun row => eor (E fin next k) row false)) (y : Int) = true ↔ rowW (AW fin next k) 0 (rd_L1 next (y : Int)) ≠ []
    rw [rdOf_get _ _ y (by simp; omega), List.getElem_map, eor_ex, rowW_ne, rdL_at next y (by omega)]
    constructor
    · rintro (h | ⟨t, ht, h⟩)
      · cases h
      · have hb := hr.2 t ht
        exact ⟨t, ht, (E_iff V k t hb.1 hb.2).1 h⟩
    · rintro ⟨t, ht, h⟩
      have hb := hr.2 t ht
      exact .inr ⟨t, ht, (E_iff V k t hb.1 hb.2).2 h⟩
theorem mem_AW (V : VA L s fin next) : ∀ (k : Nat) (q : Int) (w : List Int), 0 ≤ q → q < (fin.length : Int) → (w ∈ AW fin next k q ↔ w.length = k ∧ Let w L ∧ rdOf false fin (runs next q (letB w)) = true)
  | 0, q, w, _, _ => by
    show w ∈ (if rdOf false fin q = true then [[]] else ([] : List (List Int))) ↔ _
    constructor
    · intro h
      by_cases hq : rdOf false fin q = true
      · rw [if_pos hq, List.mem_singleton] at h
        subst h
        exact ⟨rfl, fun x hx => by simp at hx, hq⟩
      · rw [if_neg hq] at h
        simp at h
    · rintro ⟨h1, h2, h3⟩
      rw [List.length_eq_zero_iff] at h1
      subst h1
      have h3 : rdOf false fin q = true := h3
      rw [if_pos h3]
      simp
  | k + 1, q, w, h0, h1 => by
    obtain ⟨y, hy⟩ := Int.eq_ofNat_of_zero_le h0
    have hnl := V.nl
    have hl6 := V.l6
    have hr := V.rw next[y] (List.getElem_mem (by omega))
    show w ∈ rowW (AW fin next k) 0 (rd_L1 next q) ↔ _
    rw [mem_rowW, hy, rdL_at next y (by omega)]
    have hgo : ∀ (j : Nat) (hj : j < next[y].length), go1 next (y : Int) (j : Int) = next[y][j] := fun j hj => by
      unfold go1; rw [rdL_at next y (by omega), rd_at _ j hj]
    constructor
    · rintro ⟨j, hj, u, hu, rfl⟩
      have hb := hr.2 _ (List.getElem_mem hj)
      obtain ⟨h2, h3, h4⟩ := (mem_AW V k next[y][j] u hb.1 hb.2).1 hu
      refine ⟨by simp [h2], fun x hx => ?_, ?_⟩
      · rcases List.mem_cons.1 hx with rfl | hx
        · omega
        · exact h3 x hx
      · have e : (97 + ((0 + j : Nat) : Int) - 97) % 256 = (j : Int) := by omega
        show rdOf false fin (runs next (go1 next (y : Int) ((97 + ((0 + j : Nat) : Int) - 97) % 256)) (letB u)) = true
        rw [e, hgo j hj]
        exact h4
    · rintro ⟨h2, h3, h4⟩
      cases w with
      | nil => simp at h2
      | cons x u =>
        have hx := h3 x (by simp)
        have e : (x - 97) % 256 = ((x - 97).toNat : Int) := by omega
        have hj : (x - 97).toNat < next[y].length := by have := hr.1; omega
        have h4 : rdOf false fin (runs next (go1 next (y : Int) ((x - 97) % 256)) (letB u)) = true := h4
        rw [e, hgo _ hj] at h4
        have hb := hr.2 _ (List.getElem_mem hj)
        exact ⟨(x - 97).toNat, hj, u, (mem_AW V k _ u hb.1 hb.2).2 ⟨by simpa using h2, fun z hz => h3 z (by simp [hz]), h4⟩, by congr 1; omega⟩
theorem rowW_asc (f : Int → List (List Int)) (m : Nat) (hf : ∀ t, (f t).Pairwise Slx ∧ ∀ w ∈ f t, w.length = m) : ∀ (row : List Int) (a : Nat), a + row.length ≤ 6 → (rowW f a row).Pairwise Slx
  | [], a, _ => List.Pairwise.nil
  | t :: row, a, ha => by
    simp only [List.length_cons] at ha
    unfold rowW
    rw [List.pairwise_append]
    refine ⟨?_, rowW_asc f m hf row (a + 1) (by omega), ?_⟩
    · rw [List.pairwise_map]
      refine (hf t).1.imp (fun {u v} h => ?_)
      have := h.put [97 + (a : Int)] []
      simpa using this
    · intro u hu v hv
      obtain ⟨u', hu', rfl⟩ := List.mem_map.1 hu
      obtain ⟨j, hj, v', hv', rfl⟩ := (mem_rowW f v row (a + 1)).1 hv
      refine .inr ⟨by simp [(hf t).2 u' hu', (hf row[j]).2 v' hv'], ?_⟩
      simp only [u8, List.map_cons, Op.bytesLess, Bool.or_eq_true, decide_eq_true_eq]
      refine .inl ?_
      rw [UInt8.lt_iff_toNat_lt, UInt8.toNat_ofNat', UInt8.toNat_ofNat']
      omega
theorem AW_len (fin : List Bool) (next : List (List Int)) : ∀ (k : Nat) (q : Int), ∀ w ∈ AW fin next k q, w.length = k
  | 0, q, w, h => by
    have h : w ∈ (if rdOf false fin q = true then [[]] else ([] : List (List Int))) := h
    split at h
    · rw [List.mem_singleton] at h; subst h; rfl
    · simp at h
  | k + 1, q, w, h => by
    obtain ⟨j, hj, u, hu, rfl⟩ := (mem_rowW _ w _ 0).1 h
    simp [AW_len fin next k _ u hu]
theorem AW_asc (hr : ∀ row ∈ next, row.length ≤ 6) : ∀ (k : Nat) (q : Int), (AW fin next k q).Pairwise Slx
  | 0, q => by
    show (if rdOf false fin q = true then [[]] else ([] : List (List Int))).Pairwise Slx
    split <;> simp
  | k + 1, q => by
    refine rowW_asc _ k (fun t => ⟨AW_asc hr k t, AW_len fin next k t⟩) _ 0 ?_
    by_cases h : q.toNat < next.length
    · have := hr next[q.toNat] (List.getElem_mem h)
      simp [rd_L1, List.getD, h]
      exact this
    · simp [rd_L1, List.getD, h]
end

theorem take_step {α : Type} (n : Nat) (out x rest : List α) (h : out.length ≤ n) : (out ++ x.take (n - out.length)) ++ rest.take (n - (out ++ x.take (n - out.length)).length) = out ++ (x ++ rest).take (n - out.length) := by
  rw [List.append_assoc, List.take_append]
  congr 2
  congr 1
  rw [List.length_append, List.length_take]
  omega
section
variable {L s : Int} {fin : List Bool} {next : List (List Int)}
def sw (b : List Int) (w : List Int) : ByteArray := strOfNums (b ++ w)
theorem colRow_aw (n : Nat) (k : Nat) (b : List Int) (len : Int)
    (ih : ∀ (out : List ByteArray) (b' : List Int) (q : Int), out.length < n → 0 ≤ q → q < len → rdOf false (E fin next k) q = true → col fin next (n : Int) k out b' q = out ++ ((AW fin next k q).map (sw b')).take (n - out.length))
    (hE : ∀ q : Int, 0 ≤ q → q < len → (rdOf false (E fin next k) q = true ↔ AW fin next k q ≠ [])) : ∀ (row : List Int) (a : Nat) (out : List ByteArray), out.length ≤ n → (∀ t ∈ row, 0 ≤ t ∧ t < len) →
    colRow (fun out a t => if (out.length : Int) < (n : Int) ∧ rdOf false (E fin next k) t = true then col fin next (n : Int) k out (b ++ [97 + a]) t else out) a row out = out ++ ((rowW (AW fin next k) a row).map (sw b)).take (n - out.length)
  | [], a, out, _, _ => by simp [colRow, rowW]
  | t :: row, a, out, ho, hb => by
    have ht := hb t (by simp)
    have key : (if (out.length : Int) < (n : Int) ∧ rdOf false (E fin next k) t = true then col fin next (n : Int) k out (b ++ [97 + (a : Int)]) t else out) = out ++ (((AW fin next k t).map (fun w => (97 + (a : Int)) :: w)).map (sw b)).take (n - out.length) := by
      by_cases h1 : out.length < n
      · by_cases h2 : rdOf false (E fin next k) t = true
        · rw [if_pos ⟨by omega, h2⟩, ih out _ t h1 ht.1 ht.2 h2, List.map_map]
          congr 2
          apply List.map_congr_left
          intro w _
          simp [sw]
        · rw [if_neg (fun h => h2 h.2)]
          have : AW fin next k t = [] := by
            by_cases h3 : AW fin next k t = []
            · exact h3
            · exact absurd ((hE t ht.1 ht.2).2 h3) h2
          rw [this]
          simp
      · rw [if_neg (fun h => h1 (by omega)), show n - out.length = 0 by omega]
        simp
    show colRow _ (a + 1) row (if (out.length : Int) < (n : Int) ∧ rdOf false (E fin next k) t = true then col fin next (n : Int) k out (b ++ [97 + (a : Int)]) t else out) = _
    rw [key, colRow_aw n k b len ih hE row (a + 1) _ (by simp; omega) (fun u hu => hb u (by simp [hu])), take_step n out _ _ ho]
    rw [← List.map_append]
    rfl
theorem col_aw (V : VA L s fin next) (n : Nat) : ∀ (k : Nat) (out : List ByteArray) (b : List Int) (q : Int), out.length < n → 0 ≤ q → q < (fin.length : Int) → rdOf false (E fin next k) q = true →
    col fin next (n : Int) k out b q = out ++ ((AW fin next k q).map (sw b)).take (n - out.length)
  | 0, out, b, q, ho, h0, h1, h => by
    have h : rdOf false fin q = true := h
    show out ++ [strOfNums b] = out ++ ((if rdOf false fin q = true then [[]] else ([] : List (List Int))).map (sw b)).take (n - out.length)
    rw [if_pos h]
    obtain ⟨m, hm⟩ : ∃ m, n - out.length = m + 1 := ⟨n - out.length - 1, by omega⟩
    rw [hm]
    simp [sw]
  | k + 1, out, b, q, ho, h0, h1, h => by
    exact colRow_aw n k b (fin.length : Int) (fun out b' q' h2 h3 h4 h5 => col_aw V n k out b' q' h2 h3 h4 h5) (fun q' h3 h4 => E_iff V k q' h3 h4) (rd_L1 next q) 0 out (by omega) (V.row0 h0 h1)
def flatW (fin : List Bool) (next : List (List Int)) (s : Int) : Nat → Nat → List (List Int)
  | 0, _ => []
  | d + 1, k => AW fin next k s ++ flatW fin next s d (k + 1)
theorem wloop_aw (V : VA L s fin next) (n : Nat) : ∀ (d k : Nat) (out : List ByteArray), out.length ≤ n →
    wloop fin next s (n : Int) d k out = out ++ ((flatW fin next s d k).map strOfNums).take (n - out.length)
  | 0, k, out, ho => by simp [wloop, flatW]
  | d + 1, k, out, ho => by
    have key : ∀ o : List ByteArray, out.length < n → (if rdOf false (E fin next k) s = true then col fin next (n : Int) k out [] s else out) = out ++ ((AW fin next k s).map strOfNums).take (n - out.length) := by
      intro _ h1
      by_cases h2 : rdOf false (E fin next k) s = true
      · rw [if_pos h2, col_aw V n k out [] s h1 V.s0 V.s1 h2]
        rfl
      · rw [if_neg h2]
        have : AW fin next k s = [] := by
          by_cases h3 : AW fin next k s = []
          · exact h3
          · exact absurd ((E_iff V k s V.s0 V.s1).2 h3) h2
        rw [this]
        simp
    unfold wloop
    by_cases h1 : (out.length : Int) < (n : Int)
    · rw [if_pos h1, key [] (by omega), wloop_aw V n d (k + 1) _ (by simp; omega), take_step n out _ _ ho]
      rw [← List.map_append]
      rfl
    · rw [if_neg h1, show n - out.length = 0 by omega]
      simp
theorem words_aw (V : VA L s fin next) (n : Nat) : wordsE fin next s (n : Int) = ((flatW fin next s 2049 0).take n).map strOfNums := by
  unfold wordsE
  rw [wloop_aw V n 2049 0 [] (by simp), List.map_take]
  rfl
theorem mem_flatW (w : List Int) : ∀ (d k : Nat), w ∈ flatW fin next s d k ↔ ∃ j, k ≤ j ∧ j < k + d ∧ w ∈ AW fin next j s
  | 0, k => by simp [flatW]; intro x h1 h2; omega
  | d + 1, k => by
    unfold flatW
    rw [List.mem_append, mem_flatW w d (k + 1)]
    constructor
    · rintro (h | ⟨j, h1, h2, h3⟩)
      · exact ⟨k, by omega, by omega, h⟩
      · exact ⟨j, by omega, by omega, h3⟩
    · rintro ⟨j, h1, h2, h3⟩
      by_cases e : j = k
      · subst e; exact .inl h3
      · exact .inr ⟨j, by omega, by omega, h3⟩
theorem flatW_asc (hr : ∀ row ∈ next, row.length ≤ 6) : ∀ (d k : Nat), (flatW fin next s d k).Pairwise Slx
  | 0, k => List.Pairwise.nil
  | d + 1, k => by
    unfold flatW
    rw [List.pairwise_append]
    refine ⟨AW_asc hr k s, flatW_asc hr d (k + 1), fun u hu v hv => ?_⟩
    obtain ⟨j, h1, h2, h3⟩ := (mem_flatW v d (k + 1)).1 hv
    exact .inl (by rw [AW_len fin next k s u hu, AW_len fin next j s v h3]; omega)
theorem flatW_cnt (k : Nat) : ∀ (d i : Nat), ((flatW fin next s d i).filter (fun w => w.length == k)).length = if i ≤ k ∧ k < i + d then (AW fin next k s).length else 0
  | 0, i => by simp [flatW]; intro h; omega
  | d + 1, i => by
    unfold flatW
    rw [List.filter_append, List.length_append, flatW_cnt k d (i + 1)]
    by_cases e : i = k
    · subst e
      rw [List.filter_eq_self.2 (fun w hw => by simp [AW_len fin next i s w hw]), if_neg (by omega), if_pos (by omega)]
      omega
    · rw [List.filter_eq_nil_iff.2 (fun w hw => by simp [AW_len fin next i s w hw, e])]
      by_cases h : i + 1 ≤ k ∧ k < i + 1 + d
      · rw [if_pos h, if_pos (by omega)]; simp
      · rw [if_neg h, if_neg (by omega)]; simp
end

/-- One round of counting: from each state its ways go along its row. -/
def cset (k : Int) (nx : List Int) (q : Int) : List Int := nx.set q.toNat (Int.tmod (wrap64 (rd nx q + k)) 2305843009213693951)
def crow (k : Int) (nx row : List Int) : List Int := row.foldl (cset k) nx
def cstep : List (List Int) → List Int → List Int → List Int
  | row :: rows, w :: ws, nx => cstep rows ws (crow w nx row)
  | _, _, nx => nx
def cwalk (rows : List (List Int)) : Nat → List Int → List Int
  | 0, ws => ws
  | n + 1, ws => cwalk rows n (cstep rows ws (List.replicate ws.length 0))
def csum : List Bool → List Int → Int → Int
  | b :: bs, w :: ws, acc => csum bs ws (if b = true then Int.tmod (wrap64 (acc + w)) 2305843009213693951 else acc)
  | _, _, acc => acc
theorem crow_length (k : Int) : ∀ (row nx : List Int), (crow k nx row).length = nx.length
  | [], _ => rfl
  | q :: row, nx => by
    show (crow k (cset k nx q) row).length = _
    rw [crow_length k row]
    simp [cset]
theorem cstep_length : ∀ (rows : List (List Int)) (ws nx : List Int), (cstep rows ws nx).length = nx.length
  | [], _, _ => rfl
  | _ :: _, [], _ => rfl
  | row :: rows, w :: ws, nx => by
    show (cstep rows ws (crow w nx row)).length = _
    rw [cstep_length rows ws, crow_length]
theorem cwalk_length (rows : List (List Int)) : ∀ (n : Nat) (ws : List Int), (cwalk rows n ws).length = ws.length
  | 0, _ => rfl
  | n + 1, ws => by
    show (cwalk rows n _).length = _
    rw [cwalk_length rows n, cstep_length, List.length_replicate]
theorem dcount_l2 (x1 x8 : Int) (x40 : List Int) (x41 x42 L s : Int) (fin : List Bool) (next : List (List Int)) (row : List Int) (hl : row.length ≤ 1000) (n : Nat) (hq : ∀ q ∈ row, 0 ≤ q ∧ q < (n : Int)) (r : Int) : ∀ (d j : Nat) (nx : List Int), row.length - j = d → j ≤ row.length → nx.length = n →
    Ev (fun k => dfa_Count.l1 k x1 (crow x8 nx (row.drop j)) x40 x41 (wrap64 (x42 + 1)) L s fin next) r →
    Ev (fun k => dfa_Count.l2 k x1 nx x8 x40 x41 x42 row (row.length : Int) (j : Int) L s fin next) r := by
  intro d
  induction d with
  | zero =>
    intro j nx hd hj hn h
    rw [List.drop_eq_nil_of_le (by omega)] at h
    exact Ev.step (fun _ => rfl) (ev_neg (by omega) h)
  | succ d ih =>
    intro j nx hd hj hn h
    have hlt : j < row.length := by omega
    have hb := hq row[j] (List.getElem_mem hlt)
    rw [List.drop_eq_getElem_cons hlt] at h
    refine Ev.step (fun _ => rfl) (ev_pos (by omega) (ev_pos (by omega) (ev_pos (by omega) ?_)))
    rw [rd_at row j hlt, wrap_succ hlt (by omega)]
    exact ev_pos hb.1 (ev_pos (by omega) (ih (j + 1) (cset x8 nx row[j]) (by omega) (by omega) (by simp [cset, hn]) h))
theorem dcount_l1 (x1 L s : Int) (fin : List Bool) (next : List (List Int)) (hr : next.length ≤ 1000) (hL : ∀ row ∈ next, row.length ≤ 1000 ∧ ∀ q ∈ row, 0 ≤ q ∧ q < (next.length : Int)) (ws : List Int) (hw : ws.length = next.length) (r : Int) : ∀ (d i : Nat) (nx : List Int), next.length - i = d → i ≤ next.length → nx.length = next.length →
    Ev (fun k => dfa_Count.l0 k (wrap64 (x1 - 1)) (cstep (next.drop i) (ws.drop i) nx) L s fin next) r →
    Ev (fun k => dfa_Count.l1 k x1 nx ws (ws.length : Int) (i : Int) L s fin next) r := by
  intro d
  induction d with
  | zero =>
    intro i nx hd hi hn h
    rw [List.drop_eq_nil_of_le (by omega)] at h
    exact Ev.step (fun _ => rfl) (ev_neg (by omega) h)
  | succ d ih =>
    intro i nx hd hi hn h
    have hlt : i < next.length := by omega
    have hb := hL next[i] (List.getElem_mem hlt)
    rw [List.drop_eq_getElem_cons hlt, List.drop_eq_getElem_cons (show i < ws.length by omega)] at h
    refine Ev.step (fun _ => rfl) (ev_pos (by omega) (ev_pos (by omega) (ev_pos (by omega) (ev_pos (by omega) ?_))))
    rw [rdL_at next i hlt, rd_at ws i (by omega)]
    refine dcount_l2 x1 ws[i] ws _ i L s fin next next[i] hb.1 next.length hb.2 r _ 0 nx rfl (by omega) hn ?_
    rw [List.drop_zero, wrap_succ hlt (by omega)]
    exact ih (i + 1) _ (by omega) (by omega) (by rw [crow_length]; exact hn) h
theorem dcount_l3 (L s : Int) (fin : List Bool) (next : List (List Int)) (ws : List Int) (hw : ws.length = fin.length) (hf : fin.length ≤ 1000) : ∀ (d i : Nat) (acc : Int), fin.length - i = d → i ≤ fin.length →
    Ev (fun k => dfa_Count.l3 k acc ws (ws.length : Int) (i : Int) L s fin next) (csum (fin.drop i) (ws.drop i) acc) := by
  intro d
  induction d with
  | zero =>
    intro i acc hd hi
    rw [List.drop_eq_nil_of_le (by omega)]
    exact Ev.step (fun _ => rfl) (ev_neg (by omega) (ev_some acc))
  | succ d ih =>
    intro i acc hd hi
    have hlt : i < fin.length := by omega
    rw [List.drop_eq_getElem_cons hlt, List.drop_eq_getElem_cons (show i < ws.length by omega)]
    refine Ev.step (fun _ => rfl) (ev_pos (by omega) (ev_pos (by omega) (ev_pos (by omega) (ev_pos (by omega) ?_))))
    rw [rd_at ws i (by omega), wrap_succ hlt (by omega), show rdOf false fin (i : Int) = fin[i] from by simp [rdOf, List.getD, hlt]]
    by_cases hb : fin[i] = true
    · refine ev_pos hb (ev_eq (ih (i + 1) _ (by omega) (by omega)) ?_)
      show _ = csum _ _ (if fin[i] = true then _ else acc)
      rw [if_pos hb]
    · refine ev_neg hb (ev_eq (ih (i + 1) _ (by omega) (by omega)) ?_)
      show _ = csum _ _ (if fin[i] = true then _ else acc)
      rw [if_neg hb]
/-- How many words of length n are accepted. -/
def cntE (s : Int) (fin : List Bool) (next : List (List Int)) (n : Nat) : Int := csum fin (cwalk next n ((List.replicate fin.length 0).set s.toNat 1)) 0
theorem dcount_l0 (L s : Int) (fin : List Bool) (next : List (List Int)) (hf : fin.length ≤ 1000) (hn : next.length = fin.length) (hL : ∀ row ∈ next, row.length ≤ 1000 ∧ ∀ q ∈ row, 0 ≤ q ∧ q < (next.length : Int)) : ∀ (n : Nat) (ws : List Int), ws.length = fin.length → n ≤ 10000 →
    Ev (fun k => dfa_Count.l0 k (n : Int) ws L s fin next) (csum fin (cwalk next n ws) 0) := by
  intro n
  induction n with
  | zero =>
    intro ws hw _
    obtain ⟨z, hz⟩ : ∃ z : Int, z = ((0 : Nat) : Int) := ⟨_, rfl⟩
    rw [← hz]
    refine Ev.step (fun _ => rfl) (ev_neg (by omega) ?_)
    have := dcount_l3 L s fin next ws hw hf _ 0 0 rfl (by omega)
    rwa [List.drop_zero, List.drop_zero] at this
  | succ n ih =>
    intro ws hw hn'
    refine Ev.step (fun _ => rfl) (ev_pos (by omega) (ev_pos (by omega) (ev_pos (by omega) ?_)))
    refine dcount_l1 _ L s fin next (by omega) hL ws (by omega) _ _ 0 _ rfl (by omega) (by simp; omega) ?_
    rw [List.drop_zero, List.drop_zero, wrap_in (by omega) (by omega), show (((n + 1 : Nat) : Int) - 1) = (n : Int) by omega, show ((ws.length : Int)).toNat = ws.length from rfl]
    exact ih _ (by rw [cstep_length, List.length_replicate]; exact hw) (by omega)
theorem dcount_ev (L s : Int) (fin : List Bool) (next : List (List Int)) (n : Int) : Ev (fun k => dfa_Count.f k L s fin next n) (if valE L s fin next = 0 ∧ 0 ≤ n ∧ n ≤ 10000 then cntE s fin next n.toNat else 0) := by
  have J : ∀ b : Bool, b = true → Ev (fun k => dfa_Count.j0 k n b L s fin next) 0 := fun b e => Ev.step (fun _ => rfl) (ev_pos e (ev_some 0))
  refine ev_bind (dval_ev _ _ _ _) ?_
  by_cases hv : valE L s fin next = 0
  · refine ev_pos hv ?_
    by_cases h1 : n < 0
    · rw [if_neg (by omega)]
      exact ev_pos h1 (J true rfl)
    · refine ev_neg h1 ?_
      by_cases h2 : n > 10000
      · rw [if_neg (by omega)]
        exact J _ (decide_eq_true h2)
      · rw [if_pos ⟨hv, by omega, by omega⟩]
        obtain ⟨v1, v2, v3, v4, v5, v6, v7, v8⟩ := valE_zero hv
        obtain ⟨m, rfl⟩ : ∃ m : Nat, n = (m : Int) := ⟨n.toNat, by omega⟩
        have K : ∀ b : Bool, b = false → Ev (fun k => dfa_Count.j0 k (m : Int) b L s fin next) (cntE s fin next m) := by
          intro b e
          refine Ev.step (fun _ => rfl) (ev_neg (by simp [e]) (ev_pos (by omega) (ev_pos (by omega) (ev_bind0 rfl (ev_pos v6 (ev_pos (by simp; omega) ?_))))))
          exact dcount_l0 L s fin next (by omega) v5 (fun row hr => ⟨by have := (v8 row hr).1; omega, by rw [v5]; exact (v8 row hr).2⟩) m _ (by simp) (by omega)
        exact K _ (decide_eq_false h2)
  · rw [if_neg (fun h => hv h.1)]
    exact ev_neg hv (J true rfl)

def Cg (a b : Int) : Prop := ∃ c, a = b + 2305843009213693951 * c
theorem Cg.refl (a : Int) : Cg a a := ⟨0, by omega⟩
theorem Cg.trans {a b c : Int} (h : Cg a b) (k : Cg b c) : Cg a c := by
  obtain ⟨x, rfl⟩ := h
  obtain ⟨y, rfl⟩ := k
  exact ⟨x + y, by rw [Int.mul_add]; omega⟩
theorem Cg.add {a b : Int} (h : Cg a b) (c : Int) : Cg (a + c) (b + c) := by
  obtain ⟨x, rfl⟩ := h
  exact ⟨x, by omega⟩
theorem Cg.emod {a b : Int} (h : Cg a b) : a % 2305843009213693951 = b % 2305843009213693951 := by
  obtain ⟨x, rfl⟩ := h
  exact Int.add_mul_emod_self_left b _ x
def dot : List Int → List Int → Int
  | a :: l, b :: m => a * b + dot l m
  | _, _ => 0
theorem dot_set (x : Int) : ∀ (l v : List Int) (i : Nat), i < l.length → l.length = v.length → dot (l.set i x) v = dot l v + (x - rd l (i : Int)) * rd v (i : Int)
  | [], v, i, h, _ => by simp at h
  | a :: l, [], i, _, h => by simp at h
  | a :: l, b :: v, 0, _, _ => by
    show x * b + dot l v = a * b + dot l v + (x - rd (a :: l) 0) * rd (b :: v) 0
    have e1 : rd (a :: l) 0 = a := rfl
    have e2 : rd (b :: v) 0 = b := rfl
    rw [e1, e2, Int.sub_mul]
    omega
  | a :: l, b :: v, i + 1, h, hl => by
    have ih := dot_set x l v i (by simpa using h) (by simpa using hl)
    show a * b + dot (l.set i x) v = a * b + dot l v + (x - rd (a :: l) ((i + 1 : Nat) : Int)) * rd (b :: v) ((i + 1 : Nat) : Int)
    have e1 : rd (a :: l) ((i + 1 : Nat) : Int) = rd l (i : Int) := rfl
    have e2 : rd (b :: v) ((i + 1 : Nat) : Int) = rd v (i : Int) := rfl
    rw [e1, e2, ih]
    omega
def PR (l : List Int) : Prop := ∀ x ∈ l, 0 ≤ x ∧ x < 2305843009213693951
theorem tm_eq {a b : Int} (ha : 0 ≤ a ∧ a < 2305843009213693951) (hb : 0 ≤ b ∧ b < 2305843009213693951) : Int.tmod (wrap64 (a + b)) 2305843009213693951 = (a + b) % 2305843009213693951 := by
  rw [wrap_in (by omega) (by omega), Int.tmod_eq_emod_of_nonneg (by omega)]
theorem tm_cg {a b : Int} (ha : 0 ≤ a ∧ a < 2305843009213693951) (hb : 0 ≤ b ∧ b < 2305843009213693951) : Cg (Int.tmod (wrap64 (a + b)) 2305843009213693951) (a + b) ∧ 0 ≤ Int.tmod (wrap64 (a + b)) 2305843009213693951 ∧ Int.tmod (wrap64 (a + b)) 2305843009213693951 < 2305843009213693951 := by
  rw [tm_eq ha hb]
  refine ⟨⟨-((a + b) / 2305843009213693951), ?_⟩, Int.emod_nonneg _ (by decide), Int.emod_lt_of_pos _ (by decide)⟩
  have := Int.emod_add_mul_ediv (a + b) 2305843009213693951
  rw [Int.mul_neg]
  omega
theorem rd_PR {l : List Int} (h : PR l) (i : Int) : 0 ≤ rd l i ∧ rd l i < 2305843009213693951 := by
  unfold rd
  rw [List.getD_eq_getElem?_getD]
  cases hg : l[i.toNat]? with
  | none => exact ⟨by decide, by decide⟩
  | some x => exact h x (List.mem_of_getElem? hg)
theorem cset_ok {k : Int} (hk : 0 ≤ k ∧ k < 2305843009213693951) {nx v : List Int} (h : PR nx) (hl : nx.length = v.length) {t : Int} (ht : 0 ≤ t ∧ t < (nx.length : Int)) : PR (cset k nx t) ∧ Cg (dot (cset k nx t) v) (dot nx v + k * rd v t) := by
  obtain ⟨i, rfl⟩ := Int.eq_ofNat_of_zero_le ht.1
  have hc := tm_cg (rd_PR h (i : Int)) hk
  constructor
  · intro x hx
    rcases List.mem_or_eq_of_mem_set hx with hx | rfl
    · exact h x hx
    · exact hc.2
  · unfold cset
    rw [Int.toNat_natCast, dot_set _ nx v i (by omega) hl]
    obtain ⟨c, hc⟩ := hc.1
    rw [hc]
    refine ⟨c * rd v (i : Int), ?_⟩
    have : (rd nx (i : Int) + k + 2305843009213693951 * c - rd nx (i : Int)) = k + 2305843009213693951 * c := by omega
    rw [this, Int.add_mul, Int.mul_assoc]
    omega
def rsum (v : List Int) (row : List Int) : Int := row.foldr (fun t s => rd v t + s) 0
theorem crow_ok {k : Int} (hk : 0 ≤ k ∧ k < 2305843009213693951) {v : List Int} : ∀ (row nx : List Int), PR nx → nx.length = v.length → (∀ t ∈ row, 0 ≤ t ∧ t < (nx.length : Int)) → PR (crow k nx row) ∧ Cg (dot (crow k nx row) v) (dot nx v + k * rsum v row)
  | [], nx, h, hl, _ => ⟨h, 0, by simp [crow, rsum]⟩
  | t :: row, nx, h, hl, hb => by
    have hs := cset_ok hk h hl (hb t (by simp))
    have hlen : (cset k nx t).length = nx.length := by simp [cset]
    have ih := crow_ok (v := v) hk row (cset k nx t) hs.1 (by rw [hlen]; exact hl) (fun u hu => by rw [hlen]; exact hb u (by simp [hu]))
    refine ⟨ih.1, ih.2.trans ?_⟩
    have := hs.2.add (k * rsum v row)
    have e : dot nx v + k * rd v t + k * rsum v row = dot nx v + k * rsum v (t :: row) := by
      show _ = dot nx v + k * (rd v t + rsum v row)
      rw [Int.mul_add]; omega
    rwa [e] at this
def pull (v : List Int) (rows : List (List Int)) : List Int := rows.map (rsum v)
theorem cstep_ok {v : List Int} : ∀ (rows : List (List Int)) (ws nx : List Int), PR ws → PR nx → nx.length = v.length → (∀ row ∈ rows, ∀ t ∈ row, 0 ≤ t ∧ t < (nx.length : Int)) → PR (cstep rows ws nx) ∧ Cg (dot (cstep rows ws nx) v) (dot nx v + dot ws (pull v rows))
  | [], ws, nx, _, h, _, _ => by
    refine ⟨h, ?_⟩
    have : dot ws (pull v []) = 0 := by cases ws <;> rfl
    rw [this]
    exact ⟨0, by simp [cstep]⟩
  | row :: rows, [], nx, _, h, _, _ => ⟨h, 0, by simp [cstep, dot]⟩
  | row :: rows, w :: ws, nx, hw, h, hl, hb => by
    have hr := crow_ok (v := v) (hw w (by simp)) row nx h hl (hb row (by simp))
    have hlen := crow_length w row nx
    have ih := cstep_ok (v := v) rows ws (crow w nx row) (fun x hx => hw x (by simp [hx])) hr.1 (by rw [hlen]; exact hl) (fun r hr t ht => by rw [hlen]; exact hb r (by simp [hr]) t ht)
    refine ⟨ih.1, ih.2.trans ?_⟩
    have := hr.2.add (dot ws (pull v rows))
    have e : dot nx v + w * rsum v row + dot ws (pull v rows) = dot nx v + dot (w :: ws) (pull v (row :: rows)) := by
      show _ = dot nx v + (w * rsum v row + dot ws (pull v rows))
      omega
    rwa [e] at this
/-- How many words of a length are accepted from each state. -/
def vec (fin : List Bool) (next : List (List Int)) (m : Nat) : List Int := (List.range fin.length).map (fun q : Nat => ((AW fin next m (q : Int)).length : Int))
theorem rowW_length (f : Int → List (List Int)) : ∀ (row : List Int) (a : Nat), (rowW f a row).length = (row.foldr (fun t s => (f t).length + s) 0)
  | [], _ => rfl
  | t :: row, a => by
    unfold rowW
    rw [List.length_append, List.length_map, rowW_length f row (a + 1)]
    rfl
section
variable {L s : Int} {fin : List Bool} {next : List (List Int)}
theorem vec_at (m : Nat) (q : Int) (h0 : 0 ≤ q) (h1 : q < (fin.length : Int)) : rd (vec fin next m) q = ((AW fin next m q).length : Int) := by
  obtain ⟨y, rfl⟩ := Int.eq_ofNat_of_zero_le h0
  rw [rd_at _ y (by simp [vec]; omega)]
  simp [vec]
theorem vec_succ (V : VA L s fin next) (m : Nat) : vec fin next (m + 1) = pull (vec fin next m) next := by
  have hnl := V.nl
  apply List.ext_getElem
  · simp [vec, pull, hnl]
  · intro i h1 h2
    simp only [vec, List.length_map, List.length_range] at h1
    simp only [vec, pull, List.getElem_map, List.getElem_range]
    show ((rowW (AW fin next m) 0 (rd_L1 next (i : Int))).length : Int) = _
    rw [rdL_at next i (by omega), rowW_length]
    have hb := (V.rw next[i] (List.getElem_mem (by omega))).2
    generalize next[i] = row at hb
    induction row with
    | nil => rfl
    | cons t row ih =>
      have ht := hb t (by simp)
      have := ih (fun u hu => hb u (by simp [hu]))
      show ((((AW fin next m t).length + row.foldr (fun t s => (AW fin next m t).length + s) 0 : Nat)) : Int) = rd (vec fin next m) t + rsum (vec fin next m) row
      rw [vec_at m t ht.1 ht.2]
      unfold vec at this ⊢
      rw [← this]
      omega
theorem csum_ok : ∀ (fs : List Bool) (ws : List Int) (acc : Int), PR ws → (0 ≤ acc ∧ acc < 2305843009213693951) → (0 ≤ csum fs ws acc ∧ csum fs ws acc < 2305843009213693951) ∧ Cg (csum fs ws acc) (acc + dot ws (fs.map (fun b => if b = true then 1 else 0)))
  | [], ws, acc, _, ha => by
    have : dot ws (([] : List Bool).map (fun b => if b = true then (1 : Int) else 0)) = 0 := by cases ws <;> rfl
    rw [this]
    exact ⟨ha, 0, by simp [csum]⟩
  | b :: fs, [], acc, _, ha => ⟨ha, 0, by simp [csum, dot]⟩
  | b :: fs, w :: ws, acc, hw, ha => by
    have hw0 := hw w (by simp)
    show (0 ≤ csum fs ws (if b = true then _ else acc) ∧ csum fs ws (if b = true then _ else acc) < _) ∧ Cg (csum fs ws (if b = true then _ else acc)) (acc + (w * (if b = true then 1 else 0) + dot ws (fs.map (fun b => if b = true then 1 else 0))))
    by_cases hb : b = true
    · rw [if_pos hb, if_pos hb]
      have ht := tm_cg ha hw0
      have ih := csum_ok fs ws (Int.tmod (wrap64 (acc + w)) 2305843009213693951) (fun x hx => hw x (by simp [hx])) ht.2
      refine ⟨ih.1, ih.2.trans ?_⟩
      have := ht.1.add (dot ws (fs.map (fun b => if b = true then 1 else 0)))
      rwa [show acc + w + dot ws (fs.map (fun b => if b = true then 1 else 0)) = acc + (w * 1 + dot ws (fs.map (fun b => if b = true then 1 else 0))) by omega] at this
    · rw [if_neg hb, if_neg hb]
      have ih := csum_ok fs ws acc (fun x hx => hw x (by simp [hx])) ha
      rwa [show acc + (w * 0 + dot ws (fs.map (fun b => if b = true then 1 else 0))) = acc + dot ws (fs.map (fun b => if b = true then 1 else 0)) by omega]
theorem cwalk_ok (V : VA L s fin next) : ∀ (m j : Nat) (ws : List Int), PR ws → ws.length = fin.length → PR (cwalk next m ws) ∧ Cg (dot (cwalk next m ws) (vec fin next j)) (dot ws (vec fin next (j + m)))
  | 0, j, ws, h, _ => ⟨h, .refl _⟩
  | m + 1, j, ws, h, hl => by
    have hz : ∀ (n : Nat) (v : List Int), dot (List.replicate n 0) v = 0 := by
      intro n
      induction n with
      | zero => intro v; cases v <;> rfl
      | succ n ih =>
        intro v
        cases v with
        | nil => rfl
        | cons a v =>
          show 0 * a + dot (List.replicate n 0) v = 0
          rw [ih, Int.zero_mul]; rfl
    have hs := cstep_ok (v := vec fin next (j + m)) next ws (List.replicate ws.length 0) h (fun x hx => by rw [List.eq_of_mem_replicate hx]; exact ⟨by decide, by decide⟩) (by simp [vec, hl]) (fun row hr t ht => by rw [List.length_replicate, hl]; exact (V.rw row hr).2 t ht)
    have ih := cwalk_ok V m j (cstep next ws (List.replicate ws.length 0)) hs.1 (by rw [cstep_length, List.length_replicate, hl])
    refine ⟨ih.1, ih.2.trans ?_⟩
    have := hs.2
    rw [hz, Int.zero_add, ← vec_succ V (j + m)] at this
    exact this
theorem cnt_aw (V : VA L s fin next) (m : Nat) : cntE s fin next m = ((AW fin next m s).length : Int) % 2305843009213693951 := by
  have hw0 : PR ((List.replicate fin.length 0).set s.toNat 1) := by
    intro x hx
    rcases List.mem_or_eq_of_mem_set hx with hx | rfl
    · rw [List.eq_of_mem_replicate hx]; exact ⟨by decide, by decide⟩
    · exact ⟨by decide, by decide⟩
  have hw := cwalk_ok V m 0 _ hw0 (by simp)
  have hs := csum_ok fin (cwalk next m ((List.replicate fin.length 0).set s.toNat 1)) 0 hw.1 ⟨by decide, by decide⟩
  have e0 : vec fin next 0 = fin.map (fun b => if b = true then 1 else 0) := by
    apply List.ext_getElem
    · simp [vec]
    · intro i h1 h2
      simp only [vec, List.length_map, List.length_range] at h1
      simp only [vec, List.getElem_map, List.getElem_range]
      show (((if rdOf false fin (i : Int) = true then [[]] else ([] : List (List Int))).length : Nat) : Int) = _
      rw [rdOf_get false fin i h1]
      by_cases h : fin[i] = true <;> simp [h]
  have e1 : dot ((List.replicate fin.length 0).set s.toNat 1) (vec fin next (0 + m)) = ((AW fin next m s).length : Int) := by
    obtain ⟨a, ha⟩ := Int.eq_ofNat_of_zero_le V.s0
    have hs1 := V.s1
    have hz : ∀ (n : Nat) (v : List Int), dot (List.replicate n 0) v = 0 := by
      intro n
      induction n with
      | zero => intro v; cases v <;> rfl
      | succ n ih =>
        intro v
        cases v with
        | nil => rfl
        | cons a v =>
          show 0 * a + dot (List.replicate n 0) v = 0
          rw [ih, Int.zero_mul]; rfl
    rw [ha, Int.toNat_natCast, dot_set _ _ _ a (by simp; omega) (by simp [vec]), hz, vec_at _ _ (by omega) (by omega), rd_at _ a (by simp; omega), List.getElem_replicate, Nat.zero_add]
    omega
  rw [Int.zero_add, ← e0] at hs
  have hc := (hs.2.trans hw.2).emod
  rw [e1] at hc
  unfold cntE
  rw [← hc, Int.emod_eq_of_lt hs.1.1 hs.1.2]
end

theorem wv_l0 (w : ByteArray) (L : Int) (hw : w.size ≤ 2048) (hL : 1 ≤ L ∧ L ≤ 6) : ∀ (d i : Nat), w.size - i = d → i ≤ w.size →
    Ev (fun k => word_Valid.l0 k w L (i : Int)) ((List.range' i (w.size - i)).all (fun i : Nat => decide (97 ≤ bt w (i : Int) ∧ (bt w (i : Int) - 97) % 256 < L))) := by
  intro d
  induction d with
  | zero =>
    intro i hd hi
    exact Ev.step (fun _ => rfl) (ev_neg (by omega) (ev_eq (ev_some true) (by rw [hd]; rfl)))
  | succ d ih =>
    intro i hd hi
    have hlt : i < w.size := by omega
    rw [hd, List.range'_succ, List.all_cons]
    refine Ev.step (fun _ => rfl) (ev_pos (by omega) (ev_pos (by omega) ?_))
    by_cases h1 : bt w (i : Int) < 97
    · exact ev_pos h1 (ev_eq (ev_some false) (by rw [decide_eq_false (by omega), Bool.false_and]))
    · refine ev_neg h1 ?_
      by_cases h2 : (bt w (i : Int) - 97) % 256 ≥ L
      · exact ev_pos h2 (ev_eq (ev_some false) (by rw [decide_eq_false (by omega), Bool.false_and]))
      · refine ev_neg h2 ?_
        rw [wrap_succ hlt (by omega), decide_eq_true (show 97 ≤ bt w (i : Int) ∧ (bt w (i : Int) - 97) % 256 < L by omega), Bool.true_and]
        have := ih (i + 1) (by omega) (by omega)
        rwa [show w.size - (i + 1) = d by omega] at this
theorem wv_ev (w : ByteArray) (L : Int) : Ev (fun k => word_Valid.f k w L) (wvalid w L) := by
  have J : ∀ b : Bool, b = true → Ev (fun k => word_Valid.j0 k w L b) false := fun b e => Ev.step (fun _ => rfl) (ev_pos e (ev_some false))
  unfold wvalid
  by_cases h1 : L < 1
  · rw [show decide (1 ≤ L ∧ L ≤ 6 ∧ w.size ≤ 2048) = false from decide_eq_false (by omega), Bool.false_and]
    exact ev_pos h1 (J true rfl)
  refine ev_neg h1 ?_
  by_cases h2 : L > 6
  · rw [show decide (1 ≤ L ∧ L ≤ 6 ∧ w.size ≤ 2048) = false from decide_eq_false (by omega), Bool.false_and]
    exact ev_pos h2 (J true rfl)
  refine ev_neg h2 ?_
  by_cases h3 : w.size > 2048
  · rw [show decide (1 ≤ L ∧ L ≤ 6 ∧ w.size ≤ 2048) = false from decide_eq_false (by omega), Bool.false_and]
    exact J _ (decide_eq_true (by omega))
  · rw [show decide (1 ≤ L ∧ L ≤ 6 ∧ w.size ≤ 2048) = true from decide_eq_true (by omega), Bool.true_and]
    have K : ∀ b : Bool, b = false → Ev (fun k => word_Valid.j0 k w L b) (wok w L) := by
      intro b e
      refine Ev.step (fun _ => rfl) (ev_neg (by simp [e]) ?_)
      have := wv_l0 w L (by omega) (by omega) _ 0 rfl (by omega)
      rwa [Nat.sub_zero, ← List.range_eq_range'] at this
    exact K _ (decide_eq_false (by omega))

theorem drun_l0 (L s : Int) (fin : List Bool) (next : List (List Int)) (w : ByteArray) (hw : w.size ≤ 2048) (hv : ∀ row ∈ next, (row.length : Int) = L ∧ ∀ q ∈ row, 0 ≤ q ∧ q < (next.length : Int)) (hok : wok w L = true) : ∀ (d i : Nat) (q : Int), w.size - i = d → i ≤ w.size → 0 ≤ q → q < (next.length : Int) →
    Ev (fun k => dfa_run.l0 k q w (i : Int) L s fin next) (runs next q ((lets w).drop i)) := by
  have hll := lets_length w
  intro d
  induction d with
  | zero =>
    intro i q hd hi h0 h1
    rw [List.drop_eq_nil_of_le (by omega)]
    exact Ev.step (fun _ => rfl) (ev_neg (by omega) (ev_some q))
  | succ d ih =>
    intro i q hd hi h0 h1
    have hlt : i < (lets w).length := by omega
    rw [List.drop_eq_getElem_cons hlt]
    have ha := lets_ok hok _ (List.getElem_mem hlt)
    rw [lets_at] at ha ⊢
    have hg := go1_ok hv h0 h1 ha.1 ha.2
    refine Ev.step (fun _ => rfl) (ev_pos (by omega) (ev_pos h0 (ev_pos h1 (ev_pos (by omega) (ev_pos ha.1 (ev_pos (by omega) ?_))))))
    rw [wrap_succ (show i < w.size by omega) (by omega)]
    exact ih (i + 1) (go1 next q _) (by omega) (by omega) hg.2.1 hg.2.2
/-- Where a word leads, or -1. -/
def runE (L s : Int) (fin : List Bool) (next : List (List Int)) (q : Int) (w : ByteArray) : Int :=
  if valE L s fin next = 0 ∧ 0 ≤ q ∧ q < (fin.length : Int) ∧ wvalid w L = true then runs next q (lets w) else -1
theorem runE_ok {L s : Int} {fin : List Bool} {next : List (List Int)} {q : Int} {w : ByteArray} : runE L s fin next q w = -1 ∨ 0 ≤ runE L s fin next q w ∧ runE L s fin next q w < (fin.length : Int) := by
  unfold runE
  split
  · rename_i h
    obtain ⟨v1, v2, v3, v4, v5, v6, v7, v8⟩ := valE_zero h.1
    have h4 := h.2.2.2
    unfold wvalid at h4
    rw [Bool.and_eq_true] at h4
    have := runs_ok (L := L) (next := next) (fun row hr => by rw [v5]; exact v8 row hr) (lets w) q h.2.1 (by omega) (lets_ok h4.2)
    omega
  · exact .inl rfl
theorem dRun_ev (L s : Int) (fin : List Bool) (next : List (List Int)) (q : Int) (w : ByteArray) : Ev (fun k => dfa_Run.f k L s fin next q w) (runE L s fin next q w) := by
  have J : ∀ b : Bool, b = true → Ev (fun k => dfa_Run.j0 k q w b L s fin next) (-1) := fun b e => Ev.step (fun _ => rfl) (ev_pos e (ev_some (-1)))
  refine ev_bind (dval_ev _ _ _ _) ?_
  unfold runE
  by_cases hv : valE L s fin next = 0
  · refine ev_pos hv ?_
    by_cases h1 : q < 0
    · rw [if_neg (by omega)]
      exact ev_pos h1 (J true rfl)
    refine ev_neg h1 ?_
    by_cases h2 : q ≥ (fin.length : Int)
    · rw [if_neg (by omega)]
      exact ev_pos h2 (J true rfl)
    refine ev_neg h2 (ev_bind (wv_ev w L) ?_)
    by_cases h3 : wvalid w L = true
    · rw [if_pos ⟨hv, by omega, by omega, h3⟩]
      obtain ⟨v1, v2, v3, v4, v5, v6, v7, v8⟩ := valE_zero hv
      have h4 := h3
      unfold wvalid at h4
      rw [Bool.and_eq_true, decide_eq_true_eq] at h4
      have K : ∀ b : Bool, b = false → Ev (fun k => dfa_Run.j0 k q w b L s fin next) (runs next q (lets w)) := by
        intro b e
        refine Ev.step (fun _ => rfl) (ev_neg (by simp [e]) (ev_bind ?_ (ev_some _)))
        have := drun_l0 L s fin next w h4.1.2.2 (fun row hr => by rw [v5]; exact v8 row hr) h4.2 _ 0 q rfl (by omega) (by omega) (by omega)
        rwa [List.drop_zero] at this
      exact K _ (by rw [h3]; rfl)
    · rw [if_neg (fun h => h3 h.2.2.2)]
      exact J _ (by rw [Bool.not_eq_true] at h3; rw [h3]; rfl)
  · rw [if_neg (fun h => hv h.1)]
    exact ev_neg hv (J true rfl)

/-- Whether a word is accepted. -/
def accE (L s : Int) (fin : List Bool) (next : List (List Int)) (w : ByteArray) : Bool :=
  if 0 ≤ runE L s fin next s w then rdOf false fin (runE L s fin next s w) else false
theorem dAcc_ev (L s : Int) (fin : List Bool) (next : List (List Int)) (w : ByteArray) : Ev (fun k => dfa_Accepts.f k L s fin next w) (accE L s fin next w) := by
  refine ev_bind (dRun_ev _ _ _ _ _ _) ?_
  unfold accE
  by_cases h : 0 ≤ runE L s fin next s w
  · exact ev_eq (ev_pos h (ev_pos h (ev_pos (by have := @runE_ok L s fin next s w; omega) (ev_some _)))) (if_pos h).symm
  · exact ev_eq (ev_neg h (ev_some false)) (if_neg h).symm

section
variable {L s : Int} {fin : List Bool} {next : List (List Int)}
theorem acc_valid (hv : valE L s fin next = 0) {w : ByteArray} (hu : wvalid w L = true) : accE L s fin next w = rdOf false fin (runs next s (lets w)) := by
  obtain ⟨v1, v2, v3, v4, v5, v6, v7, v8⟩ := valE_zero hv
  have h4 := hu
  unfold wvalid at h4
  rw [Bool.and_eq_true] at h4
  have hr := runs_ok (L := L) (next := next) (fun row hr => by rw [v5]; exact v8 row hr) (lets w) s v6 (by omega) (lets_ok h4.2)
  have e : runE L s fin next s w = runs next s (lets w) := by
    unfold runE
    rw [if_pos ⟨hv, v6, v7, hu⟩]
  unfold accE
  rw [e, if_pos hr.1]
theorem acc_wvalid {w : ByteArray} (h : accE L s fin next w = true) : valE L s fin next = 0 ∧ wvalid w L = true := by
  by_cases hc : valE L s fin next = 0 ∧ wvalid w L = true
  · exact hc
  · exfalso
    have e : runE L s fin next s w = -1 := by
      unfold runE
      rw [if_neg (fun h => hc ⟨h.1, h.2.2.2⟩)]
    unfold accE at h
    rw [e, if_neg (by omega)] at h
    cases h
theorem wvalid_iff {w : ByteArray} {L : Int} (h1 : 1 ≤ L) (h6 : L ≤ 6) : wvalid w L = true ↔ (bytesOf w).length ≤ 2048 ∧ Let (bytesOf w) L := by
  unfold wvalid
  rw [Bool.and_eq_true, decide_eq_true_eq, bytesOf_length]
  constructor
  · rintro ⟨h2, h3⟩
    refine ⟨h2.2.2, fun x hx => ?_⟩
    rw [of_wok h6 h3] at hx
    obtain ⟨a, ha, rfl⟩ := List.mem_map.1 hx
    have := lets_ok h3 a ha
    omega
  · rintro ⟨h2, h3⟩
    exact ⟨⟨h1, h6, h2⟩, wok_of h6 h3⟩
end

theorem refwcompare_ev (a b : ByteArray) : Ev (fun k => semigroupref01_Compare.f k a b) (cmpW a b) := by
  by_cases h1 : (a.size : Int) < b.size
  · exact ev_pos h1 (Ev.step (fun _ => by simp only [semigroupref01_Compare.j0]; rfl) (ev_pos (Eq.refl true) (ev_eq (ev_some _) (by rw [cmpW, if_pos (by omega)]))))
  · refine ev_neg h1 ?_
    by_cases h : (a.size : Int) = b.size
    · refine ev_pos h (Ev.step (fun _ => by simp only [semigroupref01_Compare.j0]; rfl) ?_)
      by_cases h1 : Op.bytesLess a.toList b.toList = true
      · exact ev_pos h1 (ev_eq (ev_some _) (by rw [cmpW, if_neg (by omega), if_neg (by omega), if_pos h1]))
      · refine ev_neg h1 ?_
        by_cases h2 : Op.bytesLess b.toList a.toList = true
        · refine ev_neg ?_ (ev_eq (ev_some _) (by rw [cmpW, if_neg (by omega), if_neg (by omega), if_neg h1, if_pos h2]))
          intro e
          rw [e, bl_irrefl] at h2
          cases h2
        · exact ev_pos (bl_eq (by simpa using h1) (by simpa using h2)) (ev_eq (ev_some _) (by rw [cmpW, if_neg (by omega), if_neg (by omega), if_neg h1, if_neg h2]))
    · refine ev_neg h (Ev.step (fun _ => by simp only [semigroupref01_Compare.j0]; rfl) (ev_neg (by simp) (ev_neg ?_ (ev_eq (ev_some _) (by rw [cmpW, if_neg (by omega), if_pos (by omega)])))))
      intro e
      have := congrArg List.length e
      rw [toList_len, toList_len] at this
      omega

theorem str_sz (b : List Int) : (strOfNums b).size = b.length := by
  show (List.map (fun n : Int => UInt8.ofNat n.toNat) b).toArray.size = b.length
  simp

theorem cmp_lt0 {a b : ByteArray} (h : cmpW a b < 0) : Slx (bytesOf a) (bytesOf b) := by
  unfold cmpW at h
  unfold Slx
  rw [bytesOf_length, bytesOf_length, ← toList_u8, ← toList_u8]
  split at h
  · exact .inl (by assumption)
  · split at h
    · omega
    · split at h
      · exact .inr ⟨by omega, by assumption⟩
      · split at h
        · omega
        · omega
def cntL (us : List ByteArray) : List Int := (List.range 9).map (fun k => ((us.filter (fun u => u.size == k)).length : Int))
theorem cntL_len (us : List ByteArray) : (cntL us).length = 9 := by simp [cntL]
theorem cntL_at (us : List ByteArray) (k : Nat) (h : k < 9) : rd (cntL us) (k : Int) = ((us.filter (fun u => u.size == k)).length : Int) := by
  rw [rd_at _ k (by rw [cntL_len]; exact h)]
  simp [cntL]
theorem cntL_snoc (us : List ByteArray) (u : ByteArray) (hu : us.length ≤ 1000) : (if u.size < 9 then (cntL us).set u.size (wrap64 (rd (cntL us) (u.size : Int) + 1)) else cntL us) = cntL (us ++ [u]) := by
  apply List.ext_getElem
  · split <;> simp [cntL]
  · intro i h1 h2
    rw [cntL_len] at h2
    have e2 : (cntL (us ++ [u]))[i]'(by rw [cntL_len]; exact h2) = ((us.filter (fun u => u.size == i)).length : Int) + (if u.size = i then 1 else 0) := by
      simp only [cntL, List.getElem_map, List.getElem_range, List.filter_append, List.length_append]
      by_cases h : u.size = i <;> simp [h]
    have e1 : (cntL us)[i]'(by rw [cntL_len]; exact h2) = ((us.filter (fun u => u.size == i)).length : Int) := by simp [cntL]
    rw [e2]
    by_cases h : u.size < 9
    · simp only [if_pos h, List.getElem_set]
      by_cases hi : u.size = i
      · rw [if_pos hi, if_pos hi, cntL_at us _ h, hi]
        have := List.length_filter_le (fun u : ByteArray => u.size == i) us
        exact wrap_in (by omega) (by omega)
      · rw [if_neg hi, if_neg hi, e1]; omega
    · simp only [if_neg h]
      rw [e1, if_neg (by omega)]; omega
section
variable {L s : Int} {fin : List Bool} {next : List (List Int)}
theorem enum_l0 (w : ByteArray) (l : List ByteArray) (hl : l.length ≤ 40) (hacc : ∀ u ∈ l, accE L s fin next u = true) (hasc : ∀ i j (h : j < l.length) (hij : i < j), Slx (bytesOf (l[i]'(by omega))) (bytesOf l[j]))
    (h : Ev (fun k => (if (l.length : Int) > 40 then (semigrouplaw07_DfaEnumerates.j2 k l (cntL l) true L s fin next) else ((dfa_Accepts.f k L s fin next w).bind fun t233 => (if t233 = true then (if (l.any (fun u => u.toList == w.toList)) = true then (semigrouplaw07_DfaEnumerates.j2 k l (cntL l) false L s fin next) else (if (l.length : Int) < 40 then (semigrouplaw07_DfaEnumerates.j2 k l (cntL l) (decide ((w.size : Int) ≤ 2048)) L s fin next) else (if 0 ≤ (wrap64 ((l.length : Int) - 1)) then (if (wrap64 ((l.length : Int) - 1)) < (l.length : Int) then ((semigroupref01_Compare.f k w (rdOf ByteArray.empty l (wrap64 ((l.length : Int) - 1)))).bind fun t235 => (if t235 < 0 then (semigrouplaw07_DfaEnumerates.j2 k l (cntL l) (decide ((w.size : Int) ≤ 2048)) L s fin next) else (semigrouplaw07_DfaEnumerates.j2 k l (cntL l) false L s fin next))) else (none)) else (none)))) else (semigrouplaw07_DfaEnumerates.j2 k l (cntL l) false L s fin next))))) true) : ∀ (d i : Nat), l.length - i = d → i ≤ l.length →
    Ev (fun k => semigrouplaw07_DfaEnumerates.l0 k w l ((l.take i).any (fun u => u.toList == w.toList)) (cntL (l.take i)) l (l.length : Int) (i : Int) L s fin next) true := by
  intro d
  induction d with
  | zero =>
    intro i hd hi
    rw [List.take_of_length_le (by omega)]
    exact Ev.step (fun _ => rfl) (ev_neg (by omega) h)
  | succ d ih =>
    intro i hd hi
    have hlt : i < l.length := by omega
    have IH := ih (i + 1) (by omega) (by omega)
    have hsn := cntL_snoc (l.take i) l[i] (by simp; omega)
    rw [List.take_succ_eq_append_getElem hlt, ← hsn, List.any_append] at IH
    have J : ∀ b : Bool, b = false → Ev (fun k => semigrouplaw07_DfaEnumerates.j1 k w l ((l.take i).any (fun u => u.toList == w.toList)) (cntL (l.take i)) l[i] l (l.length : Int) (i : Int) b L s fin next) true := by
      intro b e
      have hc9 := cntL_len (l.take i)
      refine Ev.step (fun _ => rfl) (ev_neg (by simp [e]) ?_)
      rw [wrap_succ hlt (by omega)]
      have fin1 : ∀ c : Bool, c = ((l.take i).any (fun u => u.toList == w.toList) || [l[i]].any (fun u => u.toList == w.toList)) → Ev (fun k => if (l[i].size : Int) < ((cntL (l.take i)).length : Int) then (if 0 ≤ (l[i].size : Int) then semigrouplaw07_DfaEnumerates.l0 k w l c ((cntL (l.take i)).set ((l[i].size : Int)).toNat (wrap64 (rd (cntL (l.take i)) (l[i].size : Int) + 1))) l (l.length : Int) ((i + 1 : Nat) : Int) L s fin next else none) else semigrouplaw07_DfaEnumerates.l0 k w l c (cntL (l.take i)) l (l.length : Int) ((i + 1 : Nat) : Int) L s fin next) true := by
        intro c ec
        rw [← ec] at IH
        by_cases hz : l[i].size < 9
        · rw [if_pos hz] at IH
          refine ev_pos (by omega) (ev_pos (by omega) ?_)
          rw [Int.toNat_natCast]
          exact IH
        · rw [if_neg hz] at IH
          exact ev_neg (by omega) IH
      by_cases hin : (l.take i).any (fun u => u.toList == w.toList) = true
      · refine ev_pos hin (fin1 true (by rw [hin]; rfl))
      · refine ev_neg hin (fin1 _ ?_)
        rw [Bool.not_eq_true] at hin
        rw [hin]
        simp
    refine Ev.step (fun _ => rfl) (ev_pos (by omega) (ev_pos (by omega) (ev_pos (by omega) ?_)))
    rw [rdOf_get _ l i hlt]
    refine ev_bind (dAcc_ev _ _ _ _ _) (ev_pos (hacc _ (List.getElem_mem hlt)) ?_)
    by_cases h0 : (i : Int) > 0
    · have e1 : wrap64 ((i : Int) - 1) = ((i - 1 : Nat) : Int) := by rw [wrap_in (by omega) (by omega)]; omega
      refine ev_pos h0 ?_
      rw [e1]
      refine ev_pos (by omega) (ev_pos (by omega) ?_)
      rw [rdOf_get _ l (i - 1) (by omega)]
      refine ev_bind (refwcompare_ev _ _) ?_
      rw [cmp_lt (hasc (i - 1) i hlt (by omega))]
      exact J _ (decide_eq_false (by omega))
    · exact ev_neg h0 (J false rfl)
theorem enum_l1 (A : Ev (fun k => (semigrouplaw07_awake.f k).bind fun t => some t) true) (hv : valE L s fin next = 0) (l : List ByteArray) (hl : l.length ≤ 40) (hc : ∀ k : Nat, k < 9 → (l.length < 40 ∨ ∃ h : 39 < l.length, k < l[39].size) → cntE s fin next k = ((l.filter (fun u => u.size == k)).length : Int)) : ∀ (d k : Nat), 9 - k = d → k ≤ 9 →
    Ev (fun K => semigrouplaw07_DfaEnumerates.l1 K l (cntL l) 9 (k : Int) L s fin next) true := by
  intro d
  have hc9 := cntL_len l
  induction d with
  | zero =>
    intro k hd hk
    exact Ev.step (fun _ => rfl) (ev_neg (by omega) A)
  | succ d ih =>
    intro k hd hk
    have hlt : k < 9 := by omega
    have IH := ih (k + 1) (by omega) (by omega)
    refine Ev.step (fun _ => rfl) (ev_pos (by omega) ?_)
    rw [wrap_succ hlt (by omega)]
    have cnt : (l.length < 40 ∨ ∃ h : 39 < l.length, k < l[39].size) → Ev (fun K => (dfa_Count.f K L s fin next (k : Int)).bind fun t237 => (if 0 ≤ (k : Int) then (if (k : Int) < ((cntL l).length : Int) then (if t237 = (rd (cntL l) (k : Int)) then (semigrouplaw07_DfaEnumerates.l1 K l (cntL l) 9 ((k + 1 : Nat) : Int) L s fin next) else (some false)) else (none)) else (none))) true := by
      intro h
      refine ev_bind (dcount_ev _ _ _ _ _) (ev_pos (by omega) (ev_pos (by omega) ?_))
      rw [if_pos ⟨hv, by omega, by omega⟩, Int.toNat_natCast]
      exact ev_pos (by rw [hc k hlt h, cntL_at l k hlt]) IH
    by_cases h1 : (l.length : Int) < 40
    · exact ev_pos h1 (cnt (.inl (by omega)))
    · have e1 : wrap64 ((l.length : Int) - 1) = ((39 : Nat) : Int) := by rw [wrap_in (by omega) (by omega)]; omega
      refine ev_neg h1 ?_
      rw [e1, rdOf_get _ l 39 (by omega)]
      refine ev_pos (by omega) (ev_pos (by omega) ?_)
      by_cases h2 : (l[39].size : Int) > (k : Int)
      · exact ev_pos h2 (cnt (.inr ⟨by omega, by omega⟩))
      · exact ev_neg h2 IH
end
theorem DfaEnumerates : semigrouplaw07_DfaEnumerates.Pure := by
  intro x w hx hw
  have A : Ev (fun k => (semigrouplaw07_awake.f k).bind fun t => some t) true := ev_bind awake_ev (ev_some true)
  have small : Ev (fun k => semigrouplaw07_small.f k x.f0 x.f1 x.f2 x.f3 8) (decide ((x.f2.length : Int) ≤ 8) && valE x.f0 x.f1 x.f2 x.f3 == 0) := by
    by_cases h : (x.f2.length : Int) ≤ 8
    · rw [decide_eq_true h, Bool.true_and]
      exact ev_pos h (ev_bind (valid_ev _ _ _ _) (ev_some _))
    · rw [decide_eq_false h, Bool.false_and]
      exact ev_neg h (ev_some _)
  refine Ev.rounds (ev_bind small ?_)
  by_cases hs : (decide ((x.f2.length : Int) ≤ 8) && valE x.f0 x.f1 x.f2 x.f3 == 0) = true
  · refine ev_pos hs ?_
    rw [Bool.and_eq_true, beq_iff_eq, decide_eq_true_eq] at hs
    obtain ⟨h8, hv⟩ := hs
    have V := VA.of hv
    have hl1 := V.l1
    have hl6 := V.l6
    refine ev_bind (dWords_ev _ _ _ _ 40) (ev_pos (by decide) ?_)
    rw [if_pos ⟨hv, by decide, by decide⟩]
    have hwl := words_aw V 40
    have hasc0 : (flatW x.f2 x.f3 x.f1 2049 0).Pairwise Slx := flatW_asc (fun row hr => by have := (V.rw row hr).1; omega) 2049 0
    have hmem := fun u => mem_flatW (s := x.f1) (fin := x.f2) (next := x.f3) u 2049 0
    have hcnt := fun k => flatW_cnt (s := x.f1) (fin := x.f2) (next := x.f3) k 2049 0
    generalize hW : flatW x.f2 x.f3 x.f1 2049 0 = Wl at hwl hasc0 hmem hcnt
    rw [show ((40 : Nat) : Int) = 40 from rfl] at hwl
    rw [hwl]
    have hspec : ∀ u ∈ Wl, u.length ≤ 2048 ∧ Let u x.f0 ∧ rdOf false x.f2 (runs x.f3 x.f1 (letB u)) = true := by
      intro u hu
      obtain ⟨j, _, h2, h3⟩ := (hmem u).1 hu
      have := (mem_AW V j x.f1 u V.s0 V.s1).1 h3
      exact ⟨by omega, this.2.1, this.2.2⟩
    have hbyt : ∀ u ∈ Wl, bytesOf (strOfNums u) = u := fun u hu => of_str ((hspec u hu).2.1.byt hl6)
    have hl40 : ((Wl.take 40).map strOfNums).length ≤ 40 := by simp; omega
    have htk : ∀ i (h : i < ((Wl.take 40).map strOfNums).length), ∃ h' : i < Wl.length, bytesOf ((Wl.take 40).map strOfNums)[i] = Wl[i] ∧ ((Wl.take 40).map strOfNums)[i].size = Wl[i].length := by
      intro i h
      simp only [List.length_map, List.length_take] at h
      refine ⟨by omega, ?_, ?_⟩
      · simp only [List.getElem_map, List.getElem_take]
        exact hbyt _ (List.getElem_mem _)
      · simp only [List.getElem_map, List.getElem_take]
        exact str_sz _
    have hacc : ∀ u ∈ (Wl.take 40).map strOfNums, accE x.f0 x.f1 x.f2 x.f3 u = true := by
      intro u hu
      obtain ⟨v, hv', rfl⟩ := List.mem_map.1 hu
      have hv' := List.mem_of_mem_take hv'
      have h3 := hspec v hv'
      have h4 := hbyt v hv'
      have hu : wvalid (strOfNums v) x.f0 = true := (wvalid_iff hl1 hl6).2 (by rw [h4]; exact ⟨h3.1, h3.2.1⟩)
      rw [acc_valid hv hu, lets_eq, h4]
      exact h3.2.2
    have hasc : ∀ i j (h : j < ((Wl.take 40).map strOfNums).length) (hij : i < j), Slx (bytesOf (((Wl.take 40).map strOfNums)[i]'(by omega))) (bytesOf ((Wl.take 40).map strOfNums)[j]) := by
      intro i j h hij
      obtain ⟨h1, h2, _⟩ := htk j h
      obtain ⟨h3, h4, _⟩ := htk i (by omega)
      rw [h2, h4]
      exact List.pairwise_iff_getElem.1 hasc0 i j h3 h1 hij
    have hlen : ((Wl.take 40).map strOfNums).length = min 40 Wl.length := by simp
    have hfil : ∀ k, (((Wl.take 40).map strOfNums).filter (fun u => u.size == k)).length = ((Wl.take 40).filter (fun u => u.length == k)).length := by
      intro k
      rw [List.filter_map, List.length_map]
      congr 1
      apply List.filter_congr
      intro u _
      simp [str_sz]
    have hcount : ∀ k : Nat, k < 9 → (((Wl.take 40).map strOfNums).length < 40 ∨ ∃ h : 39 < ((Wl.take 40).map strOfNums).length, k < ((Wl.take 40).map strOfNums)[39].size) → cntE x.f1 x.f2 x.f3 k = ((((Wl.take 40).map strOfNums).filter (fun u => u.size == k)).length : Int) := by
      intro k hk hor
      have h1 := hcnt k
      rw [if_pos ⟨by omega, by omega⟩] at h1
      have h2 : ((Wl.take 40).filter (fun u => u.length == k)).length = (Wl.filter (fun u => u.length == k)).length := by
        rcases hor with hor | ⟨h39, hor⟩
        · rw [List.take_of_length_le (by omega)]
        · obtain ⟨h5, _, h7⟩ := htk 39 h39
          rw [h7] at hor
          have hd : (Wl.drop 40).filter (fun u => u.length == k) = [] := by
            rw [List.filter_eq_nil_iff]
            intro u hu
            obtain ⟨j, hj, rfl⟩ := List.getElem_of_mem hu
            rw [List.length_drop] at hj
            rw [List.getElem_drop]
            have h8 := List.pairwise_iff_getElem.1 hasc0 39 (40 + j) h5 (by omega) (by omega)
            have h9 : Wl[39].length ≤ Wl[40 + j].length := by
              rcases h8 with h8 | ⟨h8, _⟩ <;> omega
            simp; omega
          have h10 := List.take_append_drop 40 Wl
          have h11 : (Wl.filter (fun u => u.length == k)) = (Wl.take 40).filter (fun u => u.length == k) ++ (Wl.drop 40).filter (fun u => u.length == k) := by rw [← List.filter_append, h10]
          rw [h11, hd, List.append_nil]
      rw [cnt_aw V k, hfil k, h2, h1]
      have h12 := List.length_filter_le (fun u : List Int => u.length == k) (Wl.take 40)
      rw [List.length_take] at h12
      exact Int.emod_eq_of_lt (by omega) (by omega)
    have J2 : ∀ b : Bool, b = false → Ev (fun k => semigrouplaw07_DfaEnumerates.j2 k ((Wl.take 40).map strOfNums) (cntL ((Wl.take 40).map strOfNums)) b x.f0 x.f1 x.f2 x.f3) true := by
      intro b e
      refine Ev.step (fun _ => rfl) (ev_neg (by simp [e]) ?_)
      rw [cntL_len]
      exact enum_l1 A hv _ hl40 hcount _ 0 rfl (by omega)
    have main := enum_l0 w ((Wl.take 40).map strOfNums) hl40 hacc hasc ?_ _ 0 rfl (by omega)
    · exact main
    · refine ev_neg (by omega) (ev_bind (dAcc_ev _ _ _ _ w) ?_)
      by_cases hac : accE x.f0 x.f1 x.f2 x.f3 w = true
      · refine ev_pos hac ?_
        by_cases hin : ((Wl.take 40).map strOfNums).any (fun u => u.toList == w.toList) = true
        · exact ev_pos hin (J2 false rfl)
        · refine ev_neg hin ?_
          have hval := (acc_wvalid hac).2
          have hw2 := (wvalid_iff hl1 hl6).1 hval
          rw [acc_valid hv hval, lets_eq] at hac
          have hmw : bytesOf w ∈ Wl := (hmem _).2 ⟨(bytesOf w).length, by omega, by omega, (mem_AW V _ x.f1 _ V.s0 V.s1).2 ⟨rfl, hw2.2, hac⟩⟩
          obtain ⟨j, hj, hjw⟩ := List.getElem_of_mem hmw
          have hj40 : 40 ≤ j := by
            refine Nat.le_of_not_lt (fun hlt => hin ?_)
            rw [List.any_eq_true]
            refine ⟨strOfNums Wl[j], List.mem_map.2 ⟨Wl[j], List.mem_iff_getElem.2 ⟨j, by simp; omega, by simp⟩, rfl⟩, ?_⟩
            rw [hjw, str_of]
            simp
          have e40 : ((Wl.take 40).map strOfNums).length = 40 := by rw [hlen]; omega
          have e1 : wrap64 ((((Wl.take 40).map strOfNums).length : Int) - 1) = ((39 : Nat) : Int) := by rw [e40, wrap_in (by omega) (by omega)]; omega
          refine ev_neg (by omega) ?_
          rw [e1, rdOf_get _ _ 39 (by omega)]
          refine ev_pos (by omega) (ev_pos (by omega) (ev_bind (refwcompare_ev _ _) ?_))
          obtain ⟨h5, h6, _⟩ := htk 39 (by omega)
          refine ev_neg (fun hc => ?_) (J2 false rfl)
          have h7 := cmp_lt0 hc
          rw [h6] at h7
          have h8 := List.pairwise_iff_getElem.1 hasc0 39 j h5 hj (by omega)
          rw [hjw] at h8
          exact h7.asymm h8
      · exact ev_neg hac (J2 false rfl)
  · exact ev_neg hs A

end Go.Proofs.Ytpjbmgoagehjkaa.Pure
