/- Two ways to make the product of two small automata by any operation agree, the error too. -/
import Derived.Test.YtpjbmgoagehjkaaZDfaProductsQ
namespace Go.Proofs.Ytpjbmgoagehjkaa.Pure
open Go.RowKit Go.Proofs.Ytpjbmgoagehjkaa.PDfaProducts Go.Proofs.YtpjbmgoagehjkaaW.PrintWords Go.Proofs.YtpjbmgoagehjkaaW.PrintLast Go.Proofs.YtpjbmgoagehjkaaH
set_option linter.unusedVariables false
set_option linter.unusedSimpArgs false

theorem ev_mono {α : Type} {f : Nat → Option α} {r : α} (K : Nat) (hm : ∀ k, LeO (f k) (f (k + 1))) (h : f K = some r) : Ev f r := by
  refine ⟨K, fun n hn => ?_⟩
  induction n with
  | zero => rw [show K = 0 from by omega] at h; exact h
  | succ n ih =>
    by_cases e : K = n + 1
    · rw [← e]; exact h
    · exact hm n _ (ih (by omega))

theorem words_odd : Ev (fun k => dfa_Words.f k 2 0 [false, true] [[1, 0], [0, 1]] 3) [⟨#[97]⟩, ⟨#[97, 98]⟩, ⟨#[98, 97]⟩] := by
  refine ev_mono 40 (fun k => dfa_Words.mono _ _ _ _ _ k) ?_
  kernel_rfl
theorem awake_ev : Ev (fun k => semigrouplaw07_awake.f k) true := by
  refine ev_bind0 rfl (ev_bind words_odd (ev_bind ?_ (ev_some true)))
  refine ev_mono 10 (fun k => semigroupref01_Same.mono _ _ k) ?_
  kernel_rfl

/-- A row of a valid automaton with n states and L letters. -/
def okRow (n L : Int) (row : List Int) : Bool := decide ((row.length : Int) = L) && row.all (fun q => decide (0 ≤ q ∧ q < n))
/-- What is wrong with an automaton. -/
def valE (L s : Int) (fin : List Bool) (next : List (List Int)) : Int :=
  if L < 1 ∨ L > 6 then 1 else if fin.length > 512 then 3 else if fin.length = 0 ∨ next.length ≠ fin.length ∨ s < 0 ∨ s ≥ (fin.length : Int) then 4
  else if next.all (okRow fin.length L) then 0 else 4
theorem rdL_at (l : List (List Int)) (i : Nat) (h : i < l.length) : rd_L1 l (i : Int) = l[i] := by simp [rd_L1, List.getD, h]
theorem dval_l1 (n L s : Int) (fin : List Bool) (next rows : List (List Int)) (len i : Int) (row : List Int) (hn : row.length ≤ 1000) (r : Int) : ∀ (d j : Nat), row.length - j = d → j ≤ row.length →
    ((row.drop j).all (fun q => decide (0 ≤ q ∧ q < n)) = true → Ev (fun k => dfa_Validate.l0 k n rows len (wrap64 (i + 1)) L s fin next) r) →
    (¬ (row.drop j).all (fun q => decide (0 ≤ q ∧ q < n)) = true → r = 4) →
    Ev (fun k => dfa_Validate.l1 k n rows len i row (row.length : Int) (j : Int) L s fin next) r := by
  intro d
  induction d with
  | zero =>
    intro j hd hj h h'
    exact Ev.step (fun _ => rfl) (ev_neg (by omega) (h (by rw [List.drop_eq_nil_of_le (by omega)]; rfl)))
  | succ d ih =>
    intro j hd hj h h'
    have hlt : j < row.length := by omega
    rw [List.drop_eq_getElem_cons hlt, List.all_cons] at h h'
    refine Ev.step (fun _ => rfl) (ev_pos (by omega) (ev_pos (by omega) (ev_pos (by omega) ?_)))
    rw [rd_at row j hlt]
    by_cases h1 : row[j] < 0
    · exact ev_pos h1 (ev_eq (ev_some 4) (h' (by rw [decide_eq_false (by omega)]; simp)).symm)
    · refine ev_neg h1 ?_
      by_cases h2 : row[j] ≥ n
      · exact ev_pos h2 (ev_eq (ev_some 4) (h' (by rw [decide_eq_false (by omega)]; simp)).symm)
      · refine ev_neg h2 ?_
        rw [wrap_succ hlt (by omega)]
        rw [decide_eq_true (show 0 ≤ row[j] ∧ row[j] < n by omega), Bool.true_and] at h h'
        exact ih (j + 1) (by omega) (by omega) h h'
theorem dval_l0 (n L s : Int) (hL : 0 ≤ L ∧ L ≤ 6) (fin : List Bool) (next rows : List (List Int)) (hr : rows.length ≤ 1000) : ∀ (d i : Nat), rows.length - i = d → i ≤ rows.length →
    Ev (fun k => dfa_Validate.l0 k n rows (rows.length : Int) (i : Int) L s fin next) (if (rows.drop i).all (okRow n L) then 0 else 4) := by
  intro d
  induction d with
  | zero =>
    intro i hd hi
    exact Ev.step (fun _ => rfl) (ev_neg (by omega) (ev_eq (ev_some 0) (by rw [List.drop_eq_nil_of_le (by omega)]; rfl)))
  | succ d ih =>
    intro i hd hi
    have hlt : i < rows.length := by omega
    rw [List.drop_eq_getElem_cons hlt, List.all_cons]
    refine Ev.step (fun _ => rfl) (ev_pos (by omega) (ev_pos (by omega) (ev_pos (by omega) ?_)))
    rw [rdL_at rows i hlt]
    by_cases h1 : (rows[i].length : Int) = L
    · refine ev_pos h1 (dval_l1 n L s fin next rows _ i rows[i] (by omega) _ _ 0 rfl (by omega) (fun h => ?_) (fun h => ?_))
      · rw [List.drop_zero] at h
        rw [wrap_succ hlt (by omega), show okRow n L rows[i] = true from by unfold okRow; rw [h, decide_eq_true h1]; rfl, Bool.true_and]
        exact ih (i + 1) (by omega) (by omega)
      · rw [List.drop_zero] at h
        rw [show okRow n L rows[i] = false from by unfold okRow; rw [Bool.not_eq_true] at h; rw [h, Bool.and_false], Bool.false_and]
        rfl
    · refine ev_neg h1 (ev_eq (ev_some 4) ?_)
      rw [show okRow n L rows[i] = false from by unfold okRow; rw [decide_eq_false h1, Bool.false_and], Bool.false_and]
      rfl
theorem dval_ev (L s : Int) (fin : List Bool) (next : List (List Int)) : Ev (fun k => dfa_Validate.f k L s fin next) (valE L s fin next) := by
  have J : ∀ b : Bool, b = decide (L < 1 ∨ L > 6) → Ev (fun k => dfa_Validate.j0 k (fin.length : Int) b L s fin next) (valE L s fin next) := by
    intro b e
    unfold valE
    by_cases h1 : L < 1 ∨ L > 6
    · rw [decide_eq_true h1] at e
      rw [if_pos h1]
      exact Ev.step (fun _ => rfl) (ev_pos e (ev_some 1))
    · rw [decide_eq_false h1] at e
      rw [if_neg h1]
      refine Ev.step (fun _ => rfl) (ev_neg (by simp [e]) ?_)
      by_cases h2 : fin.length > 512
      · rw [if_pos h2]
        exact ev_pos (by omega) (ev_some 3)
      · rw [if_neg h2]
        refine ev_neg (by omega) ?_
        by_cases h3 : fin.length = 0
        · rw [if_pos (.inl h3)]
          exact ev_pos (by omega) (ev_some 4)
        · refine ev_neg (by omega) ?_
          by_cases h4 : next.length = fin.length
          · refine ev_pos (by omega) ?_
            by_cases h5 : s < 0
            · rw [if_pos (.inr (.inr (.inl h5)))]
              exact ev_pos h5 (ev_some 4)
            · refine ev_neg h5 ?_
              by_cases h6 : s ≥ (fin.length : Int)
              · rw [if_pos (.inr (.inr (.inr h6)))]
                exact ev_pos h6 (ev_some 4)
              · rw [if_neg (by omega)]
                refine ev_neg h6 ?_
                have := dval_l0 (fin.length : Int) L s (by omega) fin next next (by omega) _ 0 rfl (by omega)
                rwa [List.drop_zero] at this
          · rw [if_pos (.inr (.inl h4))]
            exact ev_neg (by omega) (ev_some 4)
  by_cases h : L < 1
  · exact ev_pos h (J true (by rw [decide_eq_true (.inl h)]))
  · exact ev_neg h (J _ (by simp only [h, false_or]))

theorem rval_l1 (n L s : Int) (fin : List Bool) (next rows : List (List Int)) (len i : Int) (row : List Int) (hn : row.length ≤ 1000) (r : Int) : ∀ (d j : Nat), row.length - j = d → j ≤ row.length →
    ((row.drop j).all (fun q => decide (0 ≤ q ∧ q < n)) = true → Ev (fun k => semigroupref07_Validate.l0 k n rows len (wrap64 (i + 1)) L s fin next) r) →
    (¬ (row.drop j).all (fun q => decide (0 ≤ q ∧ q < n)) = true → r = 4) →
    Ev (fun k => semigroupref07_Validate.l1 k n rows len i row (row.length : Int) (j : Int) L s fin next) r := by
  intro d
  induction d with
  | zero =>
    intro j hd hj h h'
    exact Ev.step (fun _ => rfl) (ev_neg (by omega) (h (by rw [List.drop_eq_nil_of_le (by omega)]; rfl)))
  | succ d ih =>
    intro j hd hj h h'
    have hlt : j < row.length := by omega
    rw [List.drop_eq_getElem_cons hlt, List.all_cons] at h h'
    refine Ev.step (fun _ => rfl) (ev_pos (by omega) (ev_pos (by omega) (ev_pos (by omega) ?_)))
    rw [rd_at row j hlt]
    by_cases h1 : row[j] < 0
    · exact ev_pos h1 (ev_eq (ev_some 4) (h' (by rw [decide_eq_false (by omega)]; simp)).symm)
    · refine ev_neg h1 ?_
      by_cases h2 : row[j] ≥ n
      · exact ev_pos h2 (ev_eq (ev_some 4) (h' (by rw [decide_eq_false (by omega)]; simp)).symm)
      · refine ev_neg h2 ?_
        rw [wrap_succ hlt (by omega)]
        rw [decide_eq_true (show 0 ≤ row[j] ∧ row[j] < n by omega), Bool.true_and] at h h'
        exact ih (j + 1) (by omega) (by omega) h h'
theorem rval_l0 (n L s : Int) (hL : 0 ≤ L ∧ L ≤ 6) (fin : List Bool) (next rows : List (List Int)) (hr : rows.length ≤ 1000) : ∀ (d i : Nat), rows.length - i = d → i ≤ rows.length →
    Ev (fun k => semigroupref07_Validate.l0 k n rows (rows.length : Int) (i : Int) L s fin next) (if (rows.drop i).all (okRow n L) then 0 else 4) := by
  intro d
  induction d with
  | zero =>
    intro i hd hi
    exact Ev.step (fun _ => rfl) (ev_neg (by omega) (ev_eq (ev_some 0) (by rw [List.drop_eq_nil_of_le (by omega)]; rfl)))
  | succ d ih =>
    intro i hd hi
    have hlt : i < rows.length := by omega
    rw [List.drop_eq_getElem_cons hlt, List.all_cons]
    refine Ev.step (fun _ => rfl) (ev_pos (by omega) (ev_pos (by omega) (ev_pos (by omega) ?_)))
    rw [rdL_at rows i hlt]
    by_cases h1 : (rows[i].length : Int) = L
    · refine ev_pos h1 (rval_l1 n L s fin next rows _ i rows[i] (by omega) _ _ 0 rfl (by omega) (fun h => ?_) (fun h => ?_))
      · rw [List.drop_zero] at h
        rw [wrap_succ hlt (by omega), show okRow n L rows[i] = true from by unfold okRow; rw [h, decide_eq_true h1]; rfl, Bool.true_and]
        exact ih (i + 1) (by omega) (by omega)
      · rw [List.drop_zero] at h
        rw [show okRow n L rows[i] = false from by unfold okRow; rw [Bool.not_eq_true] at h; rw [h, Bool.and_false], Bool.false_and]
        rfl
    · refine ev_neg h1 (ev_eq (ev_some 4) ?_)
      rw [show okRow n L rows[i] = false from by unfold okRow; rw [decide_eq_false h1, Bool.false_and], Bool.false_and]
      rfl
theorem rval_ev (L s : Int) (fin : List Bool) (next : List (List Int)) : Ev (fun k => semigroupref07_Validate.f k L s fin next) (valE L s fin next) := by
  by_cases h1 : L < 1 ∨ L > 6
  · have hm : semigroupref01_MayLetters.f L = some false := by
      unfold semigroupref01_MayLetters.f
      by_cases h : L ≥ 1
      · rw [if_pos h, decide_eq_false (by omega)]
      · rw [if_neg h]
    refine ev_bind0 hm (ev_neg (by simp) (ev_eq (ev_some 1) ?_))
    unfold valE
    rw [if_pos h1]
  · have hm : semigroupref01_MayLetters.f L = some true := by
      unfold semigroupref01_MayLetters.f
      rw [if_pos (by omega), decide_eq_true (by omega)]
    refine ev_bind0 hm (ev_pos rfl ?_)
    unfold valE
    rw [if_neg h1]
    by_cases h2 : fin.length > 512
    · rw [if_pos h2]
      exact ev_pos (by omega) (ev_some 3)
    · rw [if_neg h2]
      refine ev_neg (by omega) ?_
      have J : ∀ b : Bool, b = decide (fin.length = 0 ∨ next.length ≠ fin.length ∨ s < 0 ∨ s ≥ (fin.length : Int)) → Ev (fun k => semigroupref07_Validate.j0 k (fin.length : Int) b L s fin next) (if fin.length = 0 ∨ next.length ≠ fin.length ∨ s < 0 ∨ s ≥ (fin.length : Int) then 4 else if next.all (okRow fin.length L) then 0 else 4) := by
        intro b e
        by_cases h3 : fin.length = 0 ∨ next.length ≠ fin.length ∨ s < 0 ∨ s ≥ (fin.length : Int)
        · rw [decide_eq_true h3] at e
          rw [if_pos h3]
          exact Ev.step (fun _ => rfl) (ev_pos e (ev_some 4))
        · rw [decide_eq_false h3] at e
          rw [if_neg h3]
          refine Ev.step (fun _ => rfl) (ev_neg (by simp [e]) ?_)
          have := rval_l0 (fin.length : Int) L s (by omega) fin next next (by omega) _ 0 rfl (by omega)
          rwa [List.drop_zero] at this
      by_cases h3 : fin.length = 0
      · exact ev_pos (by omega) (J true (decide_eq_true (.inl h3)).symm)
      · refine ev_neg (by omega) ?_
        by_cases h4 : next.length = fin.length
        · refine ev_pos (by omega) ?_
          by_cases h5 : s < 0
          · exact ev_pos h5 (J true (decide_eq_true (.inr (.inr (.inl h5)))).symm)
          · refine ev_neg h5 (J _ ?_)
            by_cases h6 : s ≥ (fin.length : Int)
            · rw [decide_eq_true h6, decide_eq_true (.inr (.inr (.inr h6)))]
            · rw [decide_eq_false h6, decide_eq_false (by omega)]
        · exact ev_neg (by omega) (J true (decide_eq_true (.inr (.inl h4))).symm)

theorem valid_ev (L s : Int) (fin : List Bool) (next : List (List Int)) : Ev (fun k => semigrouplaw07_valid.f k L s fin next) (valE L s fin next == 0) :=
  ev_bind (rval_ev _ _ _ _) (ev_some _)

theorem valE_zero {L s : Int} {fin : List Bool} {next : List (List Int)} (h : valE L s fin next = 0) :
    1 ≤ L ∧ L ≤ 6 ∧ 0 < fin.length ∧ fin.length ≤ 512 ∧ next.length = fin.length ∧ 0 ≤ s ∧ s < (fin.length : Int) ∧ ∀ row ∈ next, (row.length : Int) = L ∧ ∀ q ∈ row, 0 ≤ q ∧ q < (fin.length : Int) := by
  unfold valE at h
  by_cases h1 : L < 1 ∨ L > 6
  · rw [if_pos h1] at h; cases h
  rw [if_neg h1] at h
  by_cases h2 : fin.length > 512
  · rw [if_pos h2] at h; cases h
  rw [if_neg h2] at h
  by_cases h3 : fin.length = 0 ∨ next.length ≠ fin.length ∨ s < 0 ∨ s ≥ (fin.length : Int)
  · rw [if_pos h3] at h; cases h
  rw [if_neg h3] at h
  by_cases h4 : next.all (okRow fin.length L) = true
  · refine ⟨by omega, by omega, by omega, by omega, by omega, by omega, by omega, fun row hr => ?_⟩
    have h5 := List.all_eq_true.1 h4 row hr
    simp only [okRow, Bool.and_eq_true, decide_eq_true_eq, List.all_eq_true] at h5
    exact h5
  · rw [if_neg h4] at h; cases h
theorem valE_no {L s : Int} {fin : List Bool} {next : List (List Int)} : valE L s fin next = 0 ∨ valE L s fin next = 1 ∨ valE L s fin next = 3 ∨ valE L s fin next = 4 := by
  unfold valE
  repeat' split
  all_goals simp

theorem tk_set {α : Type} {xs ys : List α} {j : Nat} (h : j < xs.length) (hl : xs.length = ys.length) : (xs.take j ++ ys.drop j).set j xs[j] = xs.take (j + 1) ++ ys.drop (j + 1) := by
  apply List.ext_getElem?
  intro i
  simp only [List.getElem?_set, List.getElem?_append, List.getElem?_take, List.getElem?_drop, List.length_take, List.length_append, List.length_drop]
  by_cases h1 : j = i
  · subst h1
    rw [if_pos rfl, if_pos (by omega), if_pos (by omega), if_pos (by omega), List.getElem?_eq_getElem h]
  · rw [if_neg h1]
    by_cases h2 : i < j
    · rw [if_pos (by omega), if_pos h2, if_pos (by omega), if_pos (by omega)]
    · rw [if_neg (by omega), if_neg (by omega)]
      congr 1
      omega
theorem tk_all {α : Type} {xs ys : List α} {j : Nat} (h : xs.length ≤ j) (hl : xs.length = ys.length) : xs.take j ++ ys.drop j = xs := by
  rw [List.take_of_length_le h, List.drop_eq_nil_of_le (by omega), List.append_nil]
theorem tk_len {α : Type} {xs ys : List α} {j : Nat} (hl : xs.length = ys.length) : (xs.take j ++ ys.drop j).length = xs.length := by
  simp only [List.length_append, List.length_take, List.length_drop]; omega

theorem rdOf_get {α : Type} (d : α) (l : List α) (i : Nat) (h : i < l.length) : rdOf d l (i : Int) = l[i] := by simp [rdOf, List.getD, h]
def eor (e : List Bool) (row : List Int) (b : Bool) : Bool := row.foldl (fun b t => b || rdOf false e t) b
/-- From which states some word of a length leads to a final one. -/
def E (fin : List Bool) (next : List (List Int)) : Nat → List Bool
  | 0 => fin
  | k + 1 => next.map (fun row => eor (E fin next k) row false)
theorem E_len {fin : List Bool} {next : List (List Int)} (h : next.length = fin.length) : ∀ k, (E fin next k).length = fin.length
  | 0 => rfl
  | k + 1 => by simp [E, h]
def El (fin : List Bool) (next : List (List Int)) (j : Nat) : List (List Bool) := (List.range j).map (E fin next)
theorem El_len (fin : List Bool) (next : List (List Int)) (j : Nat) : (El fin next j).length = j := by simp [El]
theorem El_at (fin : List Bool) (next : List (List Int)) (j k : Nat) (h : k < j) : rd_L3 (El fin next j) (k : Int) = E fin next k := by simp [rd_L3, El, List.getD, h]
theorem El_succ (fin : List Bool) (next : List (List Int)) (j : Nat) : El fin next (j + 1) = El fin next j ++ [E fin next j] := by simp [El, List.range_succ]
def colRow (f : List ByteArray → Int → Int → List ByteArray) : Nat → List Int → List ByteArray → List ByteArray
  | _, [], out => out
  | a, t :: row, out => colRow f (a + 1) row (f out (a : Int) t)
def col (fin : List Bool) (next : List (List Int)) (n : Int) : Nat → List ByteArray → List Int → Int → List ByteArray
  | 0, out, b, _ => out ++ [strOfNums b]
  | k + 1, out, b, q => colRow (fun out a t => if (out.length : Int) < n ∧ rdOf false (E fin next k) t = true then col fin next n k out (b ++ [97 + a]) t else out) 0 (rd_L1 next q) out
def wloop (fin : List Bool) (next : List (List Int)) (s n : Int) : Nat → Nat → List ByteArray → List ByteArray
  | 0, _, out => out
  | d + 1, k, out => if (out.length : Int) < n then wloop fin next s n d (k + 1) (if rdOf false (E fin next k) s = true then col fin next n k out [] s else out) else out
def wordsE (fin : List Bool) (next : List (List Int)) (s n : Int) : List ByteArray := wloop fin next s n 2049 0 []
theorem colRow_len {f : List ByteArray → Int → Int → List ByteArray} {n : Int} (hf : ∀ out a t, (out.length : Int) ≤ n → ((f out a t).length : Int) ≤ n) : ∀ (row : List Int) (a : Nat) (out : List ByteArray), (out.length : Int) ≤ n → ((colRow f a row out).length : Int) ≤ n
  | [], _, _, h => h
  | t :: row, a, out, h => colRow_len hf row (a + 1) _ (hf out _ t h)
theorem col_len (fin : List Bool) (next : List (List Int)) (n : Int) : ∀ (k : Nat) (out : List ByteArray) (b : List Int) (q : Int), (out.length : Int) < n → ((col fin next n k out b q).length : Int) ≤ n
  | 0, out, b, q, h => by show ((out ++ [strOfNums b]).length : Int) ≤ n; simp; omega
  | k + 1, out, b, q, h => by
    refine colRow_len (fun out a t ho => ?_) _ _ _ (by omega)
    by_cases hc : (out.length : Int) < n ∧ rdOf false (E fin next k) t = true
    · show (((if (out.length : Int) < n ∧ rdOf false (E fin next k) t = true then col fin next n k out (b ++ [97 + a]) t else out)).length : Int) ≤ n
      rw [if_pos hc]
      exact col_len fin next n k _ _ _ hc.1
    · show (((if (out.length : Int) < n ∧ rdOf false (E fin next k) t = true then col fin next n k out (b ++ [97 + a]) t else out)).length : Int) ≤ n
      rw [if_neg hc]
      exact ho
theorem wloop_len (fin : List Bool) (next : List (List Int)) (s n : Int) : ∀ (d k : Nat) (out : List ByteArray), (out.length : Int) ≤ n → ((wloop fin next s n d k out).length : Int) ≤ n
  | 0, _, _, h => h
  | d + 1, k, out, h => by
    unfold wloop
    split
    · rename_i h1
      refine wloop_len fin next s n d (k + 1) _ ?_
      split
      · exact col_len fin next n k _ _ _ h1
      · exact h
    · exact h
theorem set_or (row : List Bool) (q : Nat) (h : q < row.length) (e : Bool) : (if rdOf false row (q : Int) = true then row.set q true else row.set q e) = row.set q (rdOf false row (q : Int) || e) := by
  cases rdOf false row (q : Int) <;> rfl
/-- An automaton that is valid. -/
structure VA (L s : Int) (fin : List Bool) (next : List (List Int)) : Prop where
  l1 : 1 ≤ L
  l6 : L ≤ 6
  n0 : 0 < fin.length
  n5 : fin.length ≤ 512
  nl : next.length = fin.length
  s0 : 0 ≤ s
  s1 : s < (fin.length : Int)
  rw : ∀ row ∈ next, (row.length : Int) = L ∧ ∀ q ∈ row, 0 ≤ q ∧ q < (fin.length : Int)
theorem VA.of {L s : Int} {fin : List Bool} {next : List (List Int)} (h : valE L s fin next = 0) : VA L s fin next := by
  obtain ⟨v1, v2, v3, v4, v5, v6, v7, v8⟩ := valE_zero h
  exact ⟨v1, v2, v3, v4, v5, v6, v7, v8⟩
theorem VA.row0 {L s : Int} {fin : List Bool} {next : List (List Int)} (V : VA L s fin next) {q : Int} (h0 : 0 ≤ q) (h1 : q < (fin.length : Int)) : ∀ t ∈ rd_L1 next q, 0 ≤ t ∧ t < (fin.length : Int) := by
  obtain ⟨y, rfl⟩ := Int.eq_ofNat_of_zero_le h0
  have := V.nl
  rw [rdL_at next y (by omega)]
  exact (V.rw _ (List.getElem_mem (by omega))).2

theorem nodup_le : ∀ (n : Nat) (l : List Nat), l.Nodup → (∀ x ∈ l, x < n) → l.length ≤ n
  | 0, l, _, h => by
    cases l with
    | nil => simp
    | cons x l => exact absurd (h x (by simp)) (by omega)
  | n + 1, l, hd, h => by
    by_cases hn : n ∈ l
    · have := nodup_le n (l.erase n) (hd.erase n) (fun x hx => by
        rw [hd.mem_erase_iff] at hx
        have := h x hx.2
        have := hx.1
        omega)
      rw [List.length_erase_of_mem hn] at this
      omega
    · have := nodup_le n l hd (fun x hx => by
        have := h x hx
        have : x ≠ n := by rintro rfl; exact hn hx
        omega)
      omega

abbrev PP := Int × Int
def tg (na nb : List (List Int)) (x : PP) : List PP := (rd_L1 na x.1).zip (rd_L1 nb x.2)
def add1 (P : List PP) (y : PP) : List PP := if y ∈ P then P else P ++ [y]
def addP (P : List PP) (ys : List PP) : List PP := ys.foldl add1 P
def pgo (na nb : List (List Int)) : Nat → Nat → List PP → List PP
  | 0, _, P => P
  | d + 1, i, P => if h : i < P.length then pgo na nb d (i + 1) (addP P (tg na nb P[i])) else P
def ix (P : List PP) (y : PP) : Int := (P.idxOf y : Int)
theorem add1_pre (P : List PP) (y : PP) : P <+: add1 P y := by
  unfold add1
  split
  · exact List.prefix_refl _
  · exact List.prefix_append _ _
theorem addP_pre : ∀ (ys P : List PP), P <+: addP P ys
  | [], P => List.prefix_refl _
  | y :: ys, P => (add1_pre P y).trans (addP_pre ys (add1 P y))
theorem pgo_pre (na nb : List (List Int)) : ∀ (d i : Nat) (P : List PP), P <+: pgo na nb d i P
  | 0, _, P => List.prefix_refl _
  | d + 1, i, P => by
    unfold pgo
    split
    · exact (addP_pre _ P).trans (pgo_pre na nb d (i + 1) _)
    · exact List.prefix_refl _
theorem ix_pre {P Q : List PP} (h : P <+: Q) {y : PP} (hy : y ∈ P) : ix Q y = ix P y := by
  obtain ⟨t, rfl⟩ := h
  unfold ix
  rw [List.idxOf_append, if_pos hy]
theorem ix_new {P : List PP} {y : PP} (hy : y ∉ P) : ix (P ++ [y]) y = (P.length : Int) := by
  unfold ix
  rw [List.idxOf_append, if_neg hy]
  simp
theorem mem_add1 (P : List PP) (y : PP) : y ∈ add1 P y := by
  unfold add1
  split
  · assumption
  · simp
theorem mem_addP : ∀ (ys P : List PP) (y : PP), y ∈ ys → y ∈ addP P ys
  | z :: ys, P, y, h => by
    rcases List.mem_cons.1 h with rfl | h
    · exact (addP_pre ys (add1 P y)).subset (mem_add1 P y)
    · exact mem_addP ys (add1 P z) y h
theorem ix_lt {P : List PP} {y : PP} (hy : y ∈ P) : ix P y < (P.length : Int) := by
  unfold ix
  have := List.idxOf_lt_length_of_mem hy
  omega
theorem ix_nn (P : List PP) (y : PP) : 0 ≤ ix P y := by unfold ix; omega
theorem ix_at {P : List PP} (hd : P.Nodup) (i : Nat) (h : i < P.length) : ix P P[i] = (i : Int) := by
  unfold ix
  have h1 := List.idxOf_lt_length_of_mem (List.getElem_mem h)
  have h2 : P[P.idxOf P[i]] = P[i] := List.getElem_idxOf h1
  have := (List.getElem_inj hd).1 h2
  rw [this]
theorem at_ix {P : List PP} {y : PP} (hy : y ∈ P) : ∃ i : Nat, ∃ h : i < P.length, ix P y = (i : Int) ∧ P[i] = y :=
  ⟨P.idxOf y, List.idxOf_lt_length_of_mem hy, rfl, List.getElem_idxOf _⟩
structure PI (n m : Nat) (P : List PP) : Prop where
  nd : P.Nodup
  rg : ∀ x ∈ P, (0 ≤ x.1 ∧ x.1 < (n : Int)) ∧ 0 ≤ x.2 ∧ x.2 < (m : Int)
  pos : 0 < P.length
theorem PI.le {n m : Nat} {P : List PP} (h : PI n m P) : P.length ≤ n * m := by
  have := nodup_le (n * m) (P.map (fun x => x.2.toNat + x.1.toNat * m)) ?_ ?_
  · simpa using this
  · rw [List.Nodup, List.pairwise_map]
    refine List.Pairwise.imp_of_mem (fun {a b} ha hb hne e => hne ?_) h.nd
    have h1 := h.rg a ha
    have h2 := h.rg b hb
    have e1 := congrArg (· % m) e
    have e2 := congrArg (· / m) e
    simp only [Nat.add_mul_mod_self_right] at e1
    rw [Nat.mod_eq_of_lt (by omega), Nat.mod_eq_of_lt (by omega)] at e1
    have hm : 0 < m := by omega
    simp only [Nat.add_mul_div_right _ _ hm] at e2
    rw [Nat.div_eq_of_lt (by omega), Nat.div_eq_of_lt (by omega)] at e2
    obtain ⟨a1, a2⟩ := a
    obtain ⟨b1, b2⟩ := b
    simp only at h1 h2 e1 e2
    rw [show a1 = b1 by omega, show a2 = b2 by omega]
  · intro k hk
    obtain ⟨x, hx, rfl⟩ := List.mem_map.1 hk
    have h1 := h.rg x hx
    have h2 : x.1.toNat + 1 ≤ n := by omega
    have h3 : (x.1.toNat + 1) * m ≤ n * m := Nat.mul_le_mul_right m h2
    rw [Nat.add_mul, Nat.one_mul] at h3
    omega
theorem PI.put1 {n m : Nat} {P : List PP} (h : PI n m P) {y : PP} (hy : (0 ≤ y.1 ∧ y.1 < (n : Int)) ∧ 0 ≤ y.2 ∧ y.2 < (m : Int)) : PI n m (add1 P y) := by
  unfold add1
  split
  · exact h
  · rename_i hn
    refine ⟨?_, fun x hx => ?_, by simp⟩
    · rw [List.nodup_append]
      refine ⟨h.nd, by simp, fun a ha b hb => ?_⟩
      rw [List.mem_singleton] at hb
      subst hb
      rintro rfl
      exact hn ha
    · rcases List.mem_append.1 hx with hx | hx
      · exact h.rg x hx
      · rw [List.mem_singleton] at hx
        subst hx
        exact hy
theorem PI.puts {n m : Nat} : ∀ (ys P : List PP), PI n m P → (∀ y ∈ ys, (0 ≤ y.1 ∧ y.1 < (n : Int)) ∧ 0 ≤ y.2 ∧ y.2 < (m : Int)) → PI n m (addP P ys)
  | [], _, h, _ => h
  | y :: ys, P, h, hy => PI.puts ys _ (h.put1 (hy y (by simp))) (fun z hz => hy z (by simp [hz]))
/-- Two automata over the same letters. -/
structure VB (L : Int) (sa : Int) (fa : List Bool) (na : List (List Int)) (sb : Int) (fb : List Bool) (nb : List (List Int)) : Prop where
  a : VA L sa fa na
  b : VA L sb fb nb
section
variable {L sa sb : Int} {fa fb : List Bool} {na nb : List (List Int)}
theorem VB.tgs (V : VB L sa fa na sb fb nb) {x : PP} (hx : (0 ≤ x.1 ∧ x.1 < (fa.length : Int)) ∧ 0 ≤ x.2 ∧ x.2 < (fb.length : Int)) : ((tg na nb x).length : Int) = L ∧ ((rd_L1 na x.1).length : Int) = L ∧ ((rd_L1 nb x.2).length : Int) = L ∧ ∀ y ∈ tg na nb x, (0 ≤ y.1 ∧ y.1 < (fa.length : Int)) ∧ 0 ≤ y.2 ∧ y.2 < (fb.length : Int) := by
  obtain ⟨p, hp⟩ := Int.eq_ofNat_of_zero_le hx.1.1
  obtain ⟨q, hq⟩ := Int.eq_ofNat_of_zero_le hx.2.1
  have h1 := V.a.nl
  have h2 := V.b.nl
  have ha := V.a.rw na[p] (List.getElem_mem (by omega))
  have hb := V.b.rw nb[q] (List.getElem_mem (by omega))
  unfold tg
  rw [hp, hq, rdL_at na p (by omega), rdL_at nb q (by omega)]
  refine ⟨by rw [List.length_zip]; omega, ha.1, hb.1, fun y hy => ?_⟩
  obtain ⟨i, hi, rfl⟩ := List.getElem_of_mem hy
  rw [List.getElem_zip]
  exact ⟨ha.2 _ (List.getElem_mem _), hb.2 _ (List.getElem_mem _)⟩
theorem tg_at (x : PP) (j : Nat) (h : j < (tg na nb x).length) : (tg na nb x)[j] = (rd (rd_L1 na x.1) (j : Int), rd (rd_L1 nb x.2) (j : Int)) := by
  have h2 : j < ((rd_L1 na x.1).zip (rd_L1 nb x.2)).length := h
  have h3 := h2
  rw [List.length_zip] at h3
  show ((rd_L1 na x.1).zip (rd_L1 nb x.2))[j]'h2 = _
  rw [List.getElem_zip, rd_at _ j (by omega), rd_at _ j (by omega)]
theorem PI.go (V : VB L sa fa na sb fb nb) : ∀ (d i : Nat) (P : List PP), PI fa.length fb.length P → PI fa.length fb.length (pgo na nb d i P)
  | 0, _, _, h => h
  | d + 1, i, P, h => by
    unfold pgo
    split
    · rename_i hi
      exact PI.go V d (i + 1) _ (PI.puts _ _ h (V.tgs (h.rg _ (List.getElem_mem hi))).2.2.2)
    · exact h
def prs (sa : Int) (fa : List Bool) (na : List (List Int)) (sb : Int) (fb : List Bool) (nb : List (List Int)) : List PP := pgo na nb (fa.length * fb.length) 0 [(sa, sb)]
theorem PI.start (V : VB L sa fa na sb fb nb) : PI fa.length fb.length [(sa, sb)] :=
  ⟨by simp, fun x hx => by rw [List.mem_singleton] at hx; subst hx; exact ⟨⟨V.a.s0, V.a.s1⟩, V.b.s0, V.b.s1⟩, by simp⟩
theorem PI.all (V : VB L sa fa na sb fb nb) : PI fa.length fb.length (prs sa fa na sb fb nb) := PI.go V _ _ _ (PI.start V)
/-- All targets of the pairs are pairs. -/
theorem pgo_closed (V : VB L sa fa na sb fb nb) : ∀ (d i : Nat) (P : List PP), fa.length * fb.length - i = d → PI fa.length fb.length P → (∀ j (h : j < P.length), j < i → ∀ y ∈ tg na nb P[j], y ∈ P) → ∀ j (h : j < (pgo na nb d i P).length), ∀ y ∈ tg na nb (pgo na nb d i P)[j], y ∈ pgo na nb d i P
  | 0, i, P, hd, h, hc => fun j hj => by
    have := h.le
    exact hc j hj (by have : j < P.length := hj; omega)
  | d + 1, i, P, hd, h, hc => by
    unfold pgo
    split
    · rename_i hi
      refine pgo_closed V d (i + 1) _ (by omega) (PI.puts _ _ h (V.tgs (h.rg _ (List.getElem_mem hi))).2.2.2) (fun j hj hji y hy => ?_)
      have hpre := addP_pre (tg na nb P[i]) P
      have hjP : j < P.length := by omega
      have e : (addP P (tg na nb P[i]))[j] = P[j] := (List.IsPrefix.getElem hpre hjP).symm
      rw [e] at hy
      by_cases hji' : j = i
      · subst hji'
        exact mem_addP _ _ y hy
      · exact hpre.subset (hc j hjP (by omega) y hy)
    · rename_i hi
      exact fun j hj => hc j hj (by omega)
theorem prs_closed (V : VB L sa fa na sb fb nb) {x y : PP} (hx : x ∈ prs sa fa na sb fb nb) (hy : y ∈ tg na nb x) : y ∈ prs sa fa na sb fb nb := by
  obtain ⟨j, hj, rfl⟩ := List.getElem_of_mem hx
  exact pgo_closed V _ 0 _ rfl (PI.start V) (fun j h hji => by omega) j hj y hy
def bop (op : Int) (a b : Bool) : Bool := if a = true then (if b = true then ((Go.bits .and .i64 (op / 8) 1) == 1) else ((Go.bits .and .i64 (op / 4) 1) == 1)) else (if b = true then ((Go.bits .and .i64 (op / 2) 1) == 1) else ((Go.bits .and .i64 op 1) == 1))
def prodF (op : Int) (fa fb : List Bool) (P : List PP) : List Bool := P.map (fun x => bop op (rdOf false fa x.1) (rdOf false fb x.2))
def prodN (na nb : List (List Int)) (P : List PP) : List (List Int) := P.map (fun x => (tg na nb x).map (ix P))
end

/-- What is wrong with two automata and an operation. -/
def perr (La sa : Int) (fa : List Bool) (na : List (List Int)) (Lb sb : Int) (fb : List Bool) (nb : List (List Int)) (op : Int) : Int :=
  if valE La sa fa na ≠ 0 then valE La sa fa na else if valE Lb sb fb nb ≠ 0 then valE Lb sb fb nb else if La ≠ Lb ∨ op < 0 ∨ op > 15 then 1 else 0
def prodE (La sa : Int) (fa : List Bool) (na : List (List Int)) (Lb sb : Int) (fb : List Bool) (nb : List (List Int)) (op : Int) : Int × Int × List Bool × List (List Int) × Int :=
  if perr La sa fa na Lb sb fb nb op = 0 then (La, 0, prodF op fa fb (prs sa fa na sb fb nb), prodN na nb (prs sa fa na sb fb nb), 0) else (0, 0, [], [], perr La sa fa na Lb sb fb nb op)
section
variable {La sa : Int} {fa : List Bool} {na : List (List Int)} {Lb sb : Int} {fb : List Bool} {nb : List (List Int)} {op : Int}
theorem prodE_a (h1 : ¬ valE La sa fa na = 0) : prodE La sa fa na Lb sb fb nb op = (0, 0, [], [], valE La sa fa na) := by
  have e : perr La sa fa na Lb sb fb nb op = valE La sa fa na := if_pos h1
  unfold prodE
  rw [e, if_neg h1]
theorem prodE_b (h1 : valE La sa fa na = 0) (h2 : ¬ valE Lb sb fb nb = 0) : prodE La sa fa na Lb sb fb nb op = (0, 0, [], [], valE Lb sb fb nb) := by
  have e : perr La sa fa na Lb sb fb nb op = valE Lb sb fb nb := (if_neg (fun h => h h1)).trans (if_pos h2)
  unfold prodE
  rw [e, if_neg h2]
theorem prodE_c (h1 : valE La sa fa na = 0) (h2 : valE Lb sb fb nb = 0) (h3 : La ≠ Lb ∨ op < 0 ∨ op > 15) : prodE La sa fa na Lb sb fb nb op = (0, 0, [], [], 1) := by
  have e : perr La sa fa na Lb sb fb nb op = 1 := (if_neg (fun h => h h1)).trans ((if_neg (fun h => h h2)).trans (if_pos h3))
  unfold prodE
  rw [e, if_neg (by decide)]
theorem prodE_0 (h1 : valE La sa fa na = 0) (h2 : valE Lb sb fb nb = 0) (h3 : ¬ (La ≠ Lb ∨ op < 0 ∨ op > 15)) : prodE La sa fa na Lb sb fb nb op = (La, 0, prodF op fa fb (prs sa fa na sb fb nb), prodN na nb (prs sa fa na sb fb nb), 0) := by
  have e : perr La sa fa na Lb sb fb nb op = 0 := (if_neg (fun h => h h1)).trans ((if_neg (fun h => h h2)).trans (if_neg h3))
  unfold prodE
  rw [e, if_pos rfl]
end

section
variable {L sa sb : Int} {fa fb : List Bool} {na nb : List (List Int)}
def mkD (x : PP) : S64 := ⟨x.1, x.2⟩
theorem rdT_D (P : List PP) (i : Nat) (h : i < P.length) : rd_T64 (P.map mkD) (i : Int) = mkD P[i] := by simp [rd_T64, List.getD, h]
structure RD (x : AM S64 Int) (P : List PP) : Prop where
  has : ∀ p q : Int, AM.has x (⟨p, q⟩ : S64) = decide ((p, q) ∈ P)
  get : ∀ p q : Int, (p, q) ∈ P → AM.get x (⟨p, q⟩ : S64) 0 = ix P (p, q)
theorem RD.put {x : AM S64 Int} {P : List PP} (h : RD x P) {p q : Int} (hn : (p, q) ∉ P) : RD (AM.put x (⟨p, q⟩ : S64) (P.length : Int)) (P ++ [(p, q)]) := by
  have hinj : ∀ p' q' : Int, ((⟨p, q⟩ : S64) = ⟨p', q'⟩) ↔ (p', q') = (p, q) := fun p' q' => by
    constructor
    · intro e; injection e with e1 e2; rw [e1, e2]
    · intro e; injection e with e1 e2; rw [e1, e2]
  constructor
  · intro p' q'
    rw [AM.has_put, h.has]
    rw [Bool.eq_iff_iff]
    simp only [Bool.or_eq_true, decide_eq_true_eq, List.mem_append, List.mem_singleton]
    rw [hinj]
    exact or_comm
  · intro p' q' hm
    rw [AM.get_put]
    by_cases e : (p', q') = (p, q)
    · rw [if_pos ((hinj p' q').2 e), e, ix_new hn]
    · rw [if_neg (fun h => e ((hinj p' q').1 h))]
      have hm' : (p', q') ∈ P := by
        rcases List.mem_append.1 hm with hm | hm
        · exact hm
        · exact absurd (List.mem_singleton.1 hm) e
      rw [h.get p' q' hm', ix_pre (List.prefix_append _ _) hm']
theorem RD.start (p q : Int) : RD (AM.put (AM.nil : AM S64 Int) (⟨p, q⟩ : S64) 0) [(p, q)] := by
  have h0 : RD (AM.nil : AM S64 Int) [] := ⟨fun _ _ => by rw [AM.has_nil]; simp, fun _ _ h => by simp at h⟩
  exact h0.put (by simp)
theorem dprod_l1 (V : VB L sa fa na sb fb nb) (hlim : fa.length * fb.length ≤ 500) (op : Int) (i : Int) (f0 f1 : Int) (af : List Bool) (an : List (List Int)) (haf : af.length ≤ 1000) (han : an.length ≤ 1000) (x : PP) (hx : (0 ≤ x.1 ∧ x.1 < (fa.length : Int)) ∧ 0 ≤ x.2 ∧ x.2 < (fb.length : Int)) (PF : List PP) (r : Int × Int × List Bool × List (List Int) × Int) : ∀ (d j : Nat) (P : List PP) (M : AM S64 Int), (tg na nb x).length - j = d → j ≤ (tg na nb x).length → PI fa.length fb.length P → RD M P → addP P ((tg na nb x).drop j) <+: PF → (∀ y ∈ (tg na nb x).take j, y ∈ P) →
    (∀ M' : AM S64 Int, RD M' (addP P ((tg na nb x).drop j)) → Ev (fun k => dfa_Product.l0 k op ((addP P ((tg na nb x).drop j)).map mkD) (wrap64 (i + 1)) L sa fa na L sb fb nb M' f0 f1 (af ++ [bop op (rdOf false fa x.1) (rdOf false fb x.2)]) (an ++ [(tg na nb x).map (ix PF)])) r) →
    Ev (fun k => dfa_Product.l1 k op (P.map mkD) i (((tg na nb x).map (ix PF)).take j ++ (List.replicate (tg na nb x).length 0).drop j) ((tg na nb x).length : Int) (j : Int) L sa fa na L sb fb nb M f0 f1 af an x.1 x.2) r := by
  have hT := V.tgs hx
  have ha := V.a.nl
  have hb := V.b.nl
  have hl6 := V.a.l6
  intro d
  induction d with
  | zero =>
    intro j P M hd hj hP hM hpre hin h
    rw [List.drop_eq_nil_of_le (by omega)] at h
    have H := h M hM
    refine Ev.step (fun _ => rfl) (ev_neg (by omega) (ev_pos hx.1.1 (ev_pos hx.1.2 ?_)))
    rw [tk_all (by simp; omega) (by simp)]
    by_cases h1 : rdOf false fa x.1 = true
    · refine ev_pos h1 (ev_pos hx.2.1 (ev_pos hx.2.2 ?_))
      by_cases h2 : rdOf false fb x.2 = true
      · rw [h1, h2] at H
        exact ev_pos h2 (ev_pos (by omega) (ev_pos (by omega) H))
      · rw [Bool.not_eq_true] at h2
        rw [h1, h2] at H
        exact ev_neg (by simp [h2]) (ev_pos (by omega) (ev_pos (by omega) H))
    · rw [Bool.not_eq_true] at h1
      refine ev_neg (by simp [h1]) (ev_pos hx.2.1 (ev_pos hx.2.2 ?_))
      by_cases h2 : rdOf false fb x.2 = true
      · rw [h1, h2] at H
        exact ev_pos h2 (ev_pos (by omega) (ev_pos (by omega) H))
      · rw [Bool.not_eq_true] at h2
        rw [h1, h2] at H
        exact ev_neg (by simp [h2]) (ev_pos (by omega) (ev_pos (by omega) H))
  | succ d ih =>
    intro j P M hd hj hP hM hpre hin h
    have hlt : j < (tg na nb x).length := by omega
    have hy := tg_at (na := na) (nb := nb) x j hlt
    have hyr := hT.2.2.2 _ (List.getElem_mem hlt)
    have hle := hP.le
    rw [List.drop_eq_getElem_cons hlt] at h hpre
    have e0 : addP P ((tg na nb x)[j] :: (tg na nb x).drop (j + 1)) = addP (add1 P (tg na nb x)[j]) ((tg na nb x).drop (j + 1)) := rfl
    rw [e0] at h hpre
    have hlen : (((tg na nb x).map (ix PF)).take j ++ (List.replicate (tg na nb x).length 0).drop j).length = (tg na nb x).length := by rw [tk_len (by simp)]; simp
    have hset := tk_set (xs := (tg na nb x).map (ix PF)) (ys := List.replicate (tg na nb x).length 0) (j := j) (by simpa using hlt) (by simp)
    rw [List.getElem_map] at hset
    have IH := fun (M' : AM S64 Int) (hM' : RD M' (add1 P (tg na nb x)[j])) => ih (j + 1) (add1 P (tg na nb x)[j]) M' (by omega) (by omega) (hP.put1 hyr) hM' hpre (fun y hy => by
      rw [List.take_succ_eq_append_getElem hlt, List.mem_append, List.mem_singleton] at hy
      rcases hy with hy | rfl
      · exact (add1_pre P _).subset (hin y hy)
      · exact mem_add1 P _) h
    have hix : ix PF (tg na nb x)[j] = ix (add1 P (tg na nb x)[j]) (tg na nb x)[j] := ix_pre ((addP_pre _ _).trans hpre) (mem_add1 P _)
    refine Ev.step (fun _ => rfl) (ev_pos (by omega) (ev_pos hx.1.1 (ev_pos (by omega) (ev_pos (by omega) (ev_pos (by omega) (ev_pos hx.2.1 (ev_pos (by omega) (ev_pos (by omega) ?_))))))))
    rw [wrap_succ hlt (by omega), Int.toNat_natCast]
    by_cases hm : (tg na nb x)[j] ∈ P
    · have e1 : add1 P (tg na nb x)[j] = P := if_pos hm
      rw [e1] at IH hix
      refine ev_pos (by rw [hM.has, ← hy]; simpa using hm) (ev_pos (by omega) ?_)
      rw [hM.get _ _ (by rw [← hy]; exact hm), ← hy, ← hix, hset]
      exact IH M hM
    · have e1 : add1 P (tg na nb x)[j] = P ++ [(tg na nb x)[j]] := if_neg hm
      rw [e1] at IH hix
      rw [ix_new hm] at hix
      refine ev_neg (by rw [hM.has, ← hy]; simpa using hm) (ev_neg (by rw [List.length_map]; omega) (ev_pos (by rw [List.length_map]; omega) (ev_pos (by omega) ?_)))
      have := IH _ (by rw [hy] at hm ⊢; exact hM.put hm)
      rw [List.map_append, List.map_cons, List.map_nil, ← hset, hix, hy] at this
      rw [List.length_map]
      exact this
theorem dprod_l0 (V : VB L sa fa na sb fb nb) (hlim : fa.length * fb.length ≤ 500) (op : Int) (PF : List PP) : ∀ (d i : Nat) (P : List PP) (M : AM S64 Int), fa.length * fb.length - i = d → PI fa.length fb.length P → RD M P → PF = pgo na nb d i P → i ≤ PF.length →
    Ev (fun k => dfa_Product.l0 k op (P.map mkD) (i : Int) L sa fa na L sb fb nb M L 0 ((PF.take i).map (fun x => bop op (rdOf false fa x.1) (rdOf false fb x.2))) ((PF.take i).map (fun x => (tg na nb x).map (ix PF)))) (L, 0, prodF op fa fb PF, prodN na nb PF, 0) := by
  have hl6 := V.a.l6
  have hl1 := V.a.l1
  intro d
  induction d with
  | zero =>
    intro i P M hd hP hM hPF hi
    have hle := hP.le
    have e : PF = P := hPF
    subst e
    refine Ev.step (fun _ => rfl) (ev_neg (by rw [List.length_map]; omega) ?_)
    rw [List.take_of_length_le (by omega)]
    exact ev_some _
  | succ d ih =>
    intro i P M hd hP hM hPF hi
    have hle := hP.le
    unfold pgo at hPF
    by_cases h : i < P.length
    · rw [dif_pos h] at hPF
      have hx := hP.rg _ (List.getElem_mem h)
      have hT := V.tgs hx
      have hP' := PI.puts (tg na nb P[i]) P hP hT.2.2.2
      have hpre : addP P (tg na nb P[i]) <+: PF := by rw [hPF]; exact pgo_pre _ _ _ _ _
      have hPP : P <+: PF := (addP_pre _ P).trans hpre
      have hiF : i < PF.length := by have := hPP.length_le; omega
      have ePi : PF[i] = P[i] := (List.IsPrefix.getElem hPP h).symm
      refine Ev.step (fun _ => rfl) (ev_pos (by rw [List.length_map]; omega) (ev_pos (by omega) (ev_pos (by omega) (ev_pos (by omega) (ev_bind0 rfl ?_)))))
      rw [rdT_D P i h]
      have hLn : L.toNat = (tg na nb P[i]).length := by omega
      have hFle : PF.length ≤ fa.length * fb.length := by
        rw [hPF]; exact (PI.go V _ _ _ hP').le
      rw [hLn, List.length_replicate]
      have := dprod_l1 V hlim op (i : Int) L 0 ((PF.take i).map (fun x => bop op (rdOf false fa x.1) (rdOf false fb x.2))) ((PF.take i).map (fun x => (tg na nb x).map (ix PF))) (by simp; omega) (by simp; omega) P[i] hx PF _ _ 0 P M rfl (by omega) hP hM (by rw [List.drop_zero]; exact hpre) (by simp) (fun M' hM' => by
        rw [List.drop_zero] at hM' ⊢
        have := ih (i + 1) (addP P (tg na nb P[i])) M' (by omega) hP' hM' hPF (by omega)
        rw [List.take_succ_eq_append_getElem hiF, List.map_append, List.map_append, List.map_singleton, List.map_singleton, ePi] at this
        rw [wrap_succ h (by omega)]
        exact this)
      rw [List.take_zero, List.drop_zero, List.nil_append] at this
      exact this
    · rw [dif_neg h] at hPF
      subst hPF
      refine Ev.step (fun _ => rfl) (ev_neg (by rw [List.length_map]; omega) ?_)
      rw [List.take_of_length_le (by omega)]
      exact ev_some _
end
theorem dprod_ev (La sa : Int) (fa : List Bool) (na : List (List Int)) (Lb sb : Int) (fb : List Bool) (nb : List (List Int)) (op : Int) (hlim : valE La sa fa na = 0 → valE Lb sb fb nb = 0 → fa.length * fb.length ≤ 500) : Ev (fun k => dfa_Product.f k La sa fa na Lb sb fb nb op) (prodE La sa fa na Lb sb fb nb op) := by
  have J : ∀ b : Bool, b = true → Ev (fun k => dfa_Product.j0 k op b La sa fa na Lb sb fb nb) (0, 0, [], [], 1) := fun b e => Ev.step (fun _ => rfl) (ev_pos e (ev_some _))
  refine ev_bind (dval_ev _ _ _ _) ?_
  by_cases h1 : valE La sa fa na = 0
  · refine ev_pos h1 (ev_bind (dval_ev _ _ _ _) ?_)
    by_cases h2 : valE Lb sb fb nb = 0
    · refine ev_pos h2 ?_
      by_cases h3 : La = Lb
      · subst h3
        refine ev_pos rfl ?_
        by_cases h4 : op < 0
        · rw [prodE_c h1 h2 (.inr (.inl h4))]
          exact ev_pos h4 (J true rfl)
        · refine ev_neg h4 ?_
          by_cases h5 : op > 15
          · rw [prodE_c h1 h2 (.inr (.inr h5))]
            exact J _ (decide_eq_true h5)
          · rw [prodE_0 h1 h2 (by omega)]
            have K : ∀ b : Bool, b = false → Ev (fun k => dfa_Product.j0 k op b La sa fa na La sb fb nb) (La, 0, prodF op fa fb (prs sa fa na sb fb nb), prodN na nb (prs sa fa na sb fb nb), 0) := by
              intro b e
              refine Ev.step (fun _ => rfl) (ev_neg (by simp [e]) ?_)
              have V : VB La sa fa na sb fb nb := ⟨VA.of h1, VA.of h2⟩
              exact dprod_l0 V (hlim h1 h2) op (prs sa fa na sb fb nb) (fa.length * fb.length) 0 [(sa, sb)] _ rfl (PI.start V) (RD.start sa sb) rfl (by omega)
            exact K _ (decide_eq_false h5)
      · rw [prodE_c h1 h2 (.inl h3)]
        exact ev_neg h3 (J true rfl)
    · rw [prodE_b h1 h2]
      exact ev_neg h2 (ev_some _)
  · rw [prodE_a h1]
    exact ev_neg h1 (ev_some _)

section
variable {L sa sb : Int} {fa fb : List Bool} {na nb : List (List Int)}
def mkR (x : PP) : S70 := ⟨x.1, x.2⟩
theorem rdT_R (P : List PP) (i : Nat) (h : i < P.length) : rd_T70 (P.map mkR) (i : Int) = mkR P[i] := by simp [rd_T70, List.getD, h]
structure RR (x : AM S70 Int) (P : List PP) : Prop where
  has : ∀ p q : Int, AM.has x (⟨p, q⟩ : S70) = decide ((p, q) ∈ P)
  get : ∀ p q : Int, (p, q) ∈ P → AM.get x (⟨p, q⟩ : S70) 0 = ix P (p, q)
theorem RR.put {x : AM S70 Int} {P : List PP} (h : RR x P) {p q : Int} (hn : (p, q) ∉ P) : RR (AM.put x (⟨p, q⟩ : S70) (P.length : Int)) (P ++ [(p, q)]) := by
  have hinj : ∀ p' q' : Int, ((⟨p, q⟩ : S70) = ⟨p', q'⟩) ↔ (p', q') = (p, q) := fun p' q' => by
    constructor
    · intro e; injection e with e1 e2; rw [e1, e2]
    · intro e; injection e with e1 e2; rw [e1, e2]
  constructor
  · intro p' q'
    rw [AM.has_put, h.has]
    rw [Bool.eq_iff_iff]
    simp only [Bool.or_eq_true, decide_eq_true_eq, List.mem_append, List.mem_singleton]
    rw [hinj]
    exact or_comm
  · intro p' q' hm
    rw [AM.get_put]
    by_cases e : (p', q') = (p, q)
    · rw [if_pos ((hinj p' q').2 e), e, ix_new hn]
    · rw [if_neg (fun h => e ((hinj p' q').1 h))]
      have hm' : (p', q') ∈ P := by
        rcases List.mem_append.1 hm with hm | hm
        · exact hm
        · exact absurd (List.mem_singleton.1 hm) e
      rw [h.get p' q' hm', ix_pre (List.prefix_append _ _) hm']
theorem RR.start (p q : Int) : RR (AM.put (AM.nil : AM S70 Int) (⟨p, q⟩ : S70) 0) [(p, q)] := by
  have h0 : RR (AM.nil : AM S70 Int) [] := ⟨fun _ _ => by rw [AM.has_nil]; simp, fun _ _ h => by simp at h⟩
  exact h0.put (by simp)
theorem rby (op : Int) (a b : Bool) : semigroupref07_By.f op a b = some (bop op a b) := by
  cases a <;> cases b <;> rfl
theorem rprod_l1 (V : VB L sa fa na sb fb nb) (hlim : fa.length * fb.length ≤ 500) (op : Int) (i : Int) (f0 f1 : Int) (af : List Bool) (an : List (List Int)) (haf : af.length ≤ 1000) (han : an.length ≤ 1000) (x : PP) (hx : (0 ≤ x.1 ∧ x.1 < (fa.length : Int)) ∧ 0 ≤ x.2 ∧ x.2 < (fb.length : Int)) (PF : List PP) (r : Int × Int × List Bool × List (List Int) × Int) : ∀ (d j : Nat) (P : List PP) (M : AM S70 Int), (tg na nb x).length - j = d → j ≤ (tg na nb x).length → PI fa.length fb.length P → RR M P → addP P ((tg na nb x).drop j) <+: PF →
    (∀ M' : AM S70 Int, RR M' (addP P ((tg na nb x).drop j)) → Ev (fun k => semigroupref07_Product.l0 k op ((addP P ((tg na nb x).drop j)).map mkR) (wrap64 (i + 1)) L sa fa na L sb fb nb M' f0 f1 (af ++ [bop op (rdOf false fa x.1) (rdOf false fb x.2)]) (an ++ [(tg na nb x).map (ix PF)])) r) →
    Ev (fun k => semigroupref07_Product.l1 k op (P.map mkR) i (((tg na nb x).take j).map (ix PF)) (j : Int) L sa fa na L sb fb nb M f0 f1 af an x.1 x.2) r := by
  have hT := V.tgs hx
  have ha := V.a.nl
  have hb := V.b.nl
  have hl6 := V.a.l6
  intro d
  induction d with
  | zero =>
    intro j P M hd hj hP hM hpre h
    rw [List.drop_eq_nil_of_le (by omega)] at h
    have H := h M hM
    rw [List.take_of_length_le (by omega)]
    exact Ev.step (fun _ => rfl) (ev_neg (by omega) (ev_pos (by omega) (ev_pos hx.1.1 (ev_pos hx.1.2 (ev_pos hx.2.1 (ev_pos hx.2.2 (ev_bind0 (rby op _ _) (ev_pos (by omega) H))))))))
  | succ d ih =>
    intro j P M hd hj hP hM hpre h
    have hlt : j < (tg na nb x).length := by omega
    have hy := tg_at (na := na) (nb := nb) x j hlt
    have hyr := hT.2.2.2 _ (List.getElem_mem hlt)
    have hle := hP.le
    rw [List.drop_eq_getElem_cons hlt] at h hpre
    have e0 : addP P ((tg na nb x)[j] :: (tg na nb x).drop (j + 1)) = addP (add1 P (tg na nb x)[j]) ((tg na nb x).drop (j + 1)) := rfl
    rw [e0] at h hpre
    have IH := fun (M' : AM S70 Int) (hM' : RR M' (add1 P (tg na nb x)[j])) => ih (j + 1) (add1 P (tg na nb x)[j]) M' (by omega) (by omega) (hP.put1 hyr) hM' hpre h
    rw [List.take_succ_eq_append_getElem hlt, List.map_append, List.map_singleton] at IH
    have hix : ix PF (tg na nb x)[j] = ix (add1 P (tg na nb x)[j]) (tg na nb x)[j] := ix_pre ((addP_pre _ _).trans hpre) (mem_add1 P _)
    refine Ev.step (fun _ => rfl) (ev_pos (by omega) (ev_pos hx.1.1 (ev_pos (by omega) (ev_pos (by omega) (ev_pos (by omega) (ev_pos hx.2.1 (ev_pos (by omega) (ev_pos (by omega) ?_))))))))
    rw [wrap_succ hlt (by omega)]
    by_cases hm : (tg na nb x)[j] ∈ P
    · have e1 : add1 P (tg na nb x)[j] = P := if_pos hm
      rw [e1] at IH hix
      refine ev_pos (by rw [hM.has, ← hy]; simpa using hm) (ev_pos (by simp; omega) ?_)
      rw [hM.get _ _ (by rw [← hy]; exact hm), ← hy, ← hix]
      exact IH M hM
    · have e1 : add1 P (tg na nb x)[j] = P ++ [(tg na nb x)[j]] := if_neg hm
      rw [e1] at IH hix
      rw [ix_new hm] at hix
      refine ev_neg (by rw [hM.has, ← hy]; simpa using hm) (ev_neg (by rw [List.length_map]; omega) (ev_pos (by rw [List.length_map]; omega) (ev_pos (by simp; omega) ?_)))
      have := IH _ (by rw [hy] at hm ⊢; exact hM.put hm)
      rw [List.map_append, List.map_cons, List.map_nil, hix, hy] at this
      rw [List.length_map]
      exact this
theorem rprod_l0 (V : VB L sa fa na sb fb nb) (hlim : fa.length * fb.length ≤ 500) (op : Int) (PF : List PP) : ∀ (d i : Nat) (P : List PP) (M : AM S70 Int), fa.length * fb.length - i = d → PI fa.length fb.length P → RR M P → PF = pgo na nb d i P → i ≤ PF.length →
    Ev (fun k => semigroupref07_Product.l0 k op (P.map mkR) (i : Int) L sa fa na L sb fb nb M L 0 ((PF.take i).map (fun x => bop op (rdOf false fa x.1) (rdOf false fb x.2))) ((PF.take i).map (fun x => (tg na nb x).map (ix PF)))) (L, 0, prodF op fa fb PF, prodN na nb PF, 0) := by
  have hl6 := V.a.l6
  have hl1 := V.a.l1
  intro d
  induction d with
  | zero =>
    intro i P M hd hP hM hPF hi
    have hle := hP.le
    have e : PF = P := hPF
    subst e
    refine Ev.step (fun _ => rfl) (ev_neg (by rw [List.length_map]; omega) ?_)
    rw [List.take_of_length_le (by omega)]
    exact ev_some _
  | succ d ih =>
    intro i P M hd hP hM hPF hi
    have hle := hP.le
    unfold pgo at hPF
    by_cases h : i < P.length
    · rw [dif_pos h] at hPF
      have hx := hP.rg _ (List.getElem_mem h)
      have hT := V.tgs hx
      have hP' := PI.puts (tg na nb P[i]) P hP hT.2.2.2
      have hpre : addP P (tg na nb P[i]) <+: PF := by rw [hPF]; exact pgo_pre _ _ _ _ _
      have hPP : P <+: PF := (addP_pre _ P).trans hpre
      have hiF : i < PF.length := by have := hPP.length_le; omega
      have ePi : PF[i] = P[i] := (List.IsPrefix.getElem hPP h).symm
      refine Ev.step (fun _ => rfl) (ev_pos (by rw [List.length_map]; omega) (ev_pos (by omega) ?_))
      rw [rdT_R P i h]
      have hFle : PF.length ≤ fa.length * fb.length := by
        rw [hPF]; exact (PI.go V _ _ _ hP').le
      exact rprod_l1 V hlim op (i : Int) L 0 ((PF.take i).map (fun x => bop op (rdOf false fa x.1) (rdOf false fb x.2))) ((PF.take i).map (fun x => (tg na nb x).map (ix PF))) (by simp; omega) (by simp; omega) P[i] hx PF _ _ 0 P M rfl (by omega) hP hM (by rw [List.drop_zero]; exact hpre) (fun M' hM' => by
        rw [List.drop_zero] at hM' ⊢
        have := ih (i + 1) (addP P (tg na nb P[i])) M' (by omega) hP' hM' hPF (by omega)
        rw [List.take_succ_eq_append_getElem hiF, List.map_append, List.map_append, List.map_singleton, List.map_singleton, ePi] at this
        rw [wrap_succ h (by omega)]
        exact this)
    · rw [dif_neg h] at hPF
      subst hPF
      refine Ev.step (fun _ => rfl) (ev_neg (by rw [List.length_map]; omega) ?_)
      rw [List.take_of_length_le (by omega)]
      exact ev_some _
end
theorem rprod_ev (La sa : Int) (fa : List Bool) (na : List (List Int)) (Lb sb : Int) (fb : List Bool) (nb : List (List Int)) (op : Int) (hlim : valE La sa fa na = 0 → valE Lb sb fb nb = 0 → fa.length * fb.length ≤ 500) : Ev (fun k => semigroupref07_Product.f k La sa fa na Lb sb fb nb op) (prodE La sa fa na Lb sb fb nb op) := by
  have J : ∀ b : Bool, b = true → Ev (fun k => semigroupref07_Product.j0 k op b La sa fa na Lb sb fb nb) (0, 0, [], [], 1) := fun b e => Ev.step (fun _ => rfl) (ev_pos e (ev_some _))
  by_cases h1 : valE La sa fa na = 0
  · by_cases h2 : valE Lb sb fb nb = 0
    · by_cases h3 : La = Lb
      · subst h3
        refine ev_bind (a := 0) (ev_bind (rval_ev _ _ _ _) (ev_pos h1 (ev_bind (rval_ev _ _ _ _) (ev_pos h2 (ev_pos rfl (ev_some 0)))))) (ev_pos rfl ?_)
        by_cases h4 : op < 0
        · rw [prodE_c h1 h2 (.inr (.inl h4))]
          exact ev_pos h4 (J true rfl)
        · refine ev_neg h4 ?_
          by_cases h5 : op > 15
          · rw [prodE_c h1 h2 (.inr (.inr h5))]
            exact J _ (decide_eq_true h5)
          · rw [prodE_0 h1 h2 (by omega)]
            have K : ∀ b : Bool, b = false → Ev (fun k => semigroupref07_Product.j0 k op b La sa fa na La sb fb nb) (La, 0, prodF op fa fb (prs sa fa na sb fb nb), prodN na nb (prs sa fa na sb fb nb), 0) := by
              intro b e
              refine Ev.step (fun _ => rfl) (ev_neg (by simp [e]) ?_)
              have V : VB La sa fa na sb fb nb := ⟨VA.of h1, VA.of h2⟩
              exact rprod_l0 V (hlim h1 h2) op (prs sa fa na sb fb nb) (fa.length * fb.length) 0 [(sa, sb)] _ rfl (PI.start V) (RR.start sa sb) rfl (by omega)
            exact K _ (decide_eq_false h5)
      · rw [prodE_c h1 h2 (.inl h3)]
        exact ev_bind (a := 1) (ev_bind (rval_ev _ _ _ _) (ev_pos h1 (ev_bind (rval_ev _ _ _ _) (ev_pos h2 (ev_neg h3 (ev_some 1)))))) (ev_neg (by decide) (ev_some _))
    · rw [prodE_b h1 h2]
      exact ev_bind (ev_bind (rval_ev _ _ _ _) (ev_pos h1 (ev_bind (rval_ev _ _ _ _) (ev_neg h2 (ev_some _))))) (ev_neg h2 (ev_some _))
  · rw [prodE_a h1]
    exact ev_bind (ev_bind (rval_ev _ _ _ _) (ev_neg h1 (ev_some _))) (ev_neg h1 (ev_some _))

theorem rdL7_at (l : List (List Int)) (i : Nat) (h : i < l.length) : rd_L1 l (i : Int) = l[i] := by simp [rd_L1, List.getD, h]

theorem same7_l2 (i : Int) (xl xi : Int) (L s : Int) (fin : List Bool) (next : List (List Int)) (row : List Int) (hrow : rd_L1 next i = row) (h0 : 0 ≤ i) (h1 : i < (next.length : Int)) (hl : row.length ≤ 1000000) (h : Ev (fun k => semigroupref07_Same.l1 k xl (wrap64 (xi + 1)) L s fin next L s fin next) true) : ∀ (d j : Nat), row.length - j = d → j ≤ row.length →
    Ev (fun k => semigroupref07_Same.l2 k i xl xi (row.length : Int) (j : Int) L s fin next L s fin next) true := by
  intro d
  induction d with
  | zero =>
    intro j hd hj
    exact Ev.step (fun _ => rfl) (ev_neg (by omega) h)
  | succ d ih =>
    intro j hd hj
    have hlt : j < row.length := by omega
    refine Ev.step (fun _ => rfl) (ev_pos (by omega) (ev_pos h0 (ev_pos h1 (ev_pos (by omega) ?_))))
    rw [hrow]
    refine ev_pos (by omega) (ev_pos h1 (ev_pos (by omega) (ev_pos rfl ?_)))
    rw [wrap_succ hlt (by omega)]
    exact ih (j + 1) (by omega) (by omega)
theorem same7_l1 (L s : Int) (fin : List Bool) (next : List (List Int)) (hn : next.length ≤ 1000000) (hr : ∀ row ∈ next, row.length ≤ 1000000) : ∀ (d i : Nat), next.length - i = d → i ≤ next.length →
    Ev (fun k => semigroupref07_Same.l1 k (next.length : Int) (i : Int) L s fin next L s fin next) true := by
  intro d
  induction d with
  | zero =>
    intro i hd hi
    exact Ev.step (fun _ => rfl) (ev_neg (by omega) (ev_some _))
  | succ d ih =>
    intro i hd hi
    have hlt : i < next.length := by omega
    refine Ev.step (fun _ => rfl) (ev_pos (by omega) (ev_pos (by omega) (ev_pos (by omega) (ev_pos (by omega) (ev_pos rfl ?_)))))
    rw [rdL7_at next i hlt]
    exact same7_l2 (i : Int) _ _ L s fin next next[i] (rdL7_at next i hlt) (by omega) (by omega) (hr _ (List.getElem_mem hlt)) (by rw [wrap_succ hlt (by omega)]; exact ih (i + 1) (by omega) (by omega)) _ 0 rfl (by omega)
theorem same7_l0 (L s : Int) (fin : List Bool) (next : List (List Int)) (hf : fin.length ≤ 1000000) (hn : next.length ≤ 1000000) (hr : ∀ row ∈ next, row.length ≤ 1000000) : ∀ (d i : Nat), fin.length - i = d → i ≤ fin.length →
    Ev (fun k => semigroupref07_Same.l0 k (fin.length : Int) (i : Int) L s fin next L s fin next) true := by
  intro d
  induction d with
  | zero =>
    intro i hd hi
    exact Ev.step (fun _ => rfl) (ev_neg (by omega) (same7_l1 L s fin next hn hr _ 0 rfl (by omega)))
  | succ d ih =>
    intro i hd hi
    have hlt : i < fin.length := by omega
    refine Ev.step (fun _ => rfl) (ev_pos (by omega) (ev_pos (by omega) (ev_pos (by omega) (ev_pos (by omega) (ev_neg (by simp) ?_)))))
    rw [wrap_succ hlt (by omega)]
    exact ih (i + 1) (by omega) (by omega)
theorem same7_ev (L s : Int) (fin : List Bool) (next : List (List Int)) (hf : fin.length ≤ 1000000) (hn : next.length ≤ 1000000) (hr : ∀ row ∈ next, row.length ≤ 1000000) : Ev (fun k => semigroupref07_Same.f k L s fin next L s fin next) true := by
  have J : ∀ b : Bool, b = false → Ev (fun k => semigroupref07_Same.j0 k b L s fin next L s fin next) true := fun b e => Ev.step (fun _ => rfl) (ev_neg (by simp [e]) (same7_l0 L s fin next hf hn hr _ 0 rfl (by omega)))
  exact ev_pos rfl (ev_pos rfl (ev_pos rfl (J _ (by simp))))

theorem prod_small {La sa : Int} {fa : List Bool} {na : List (List Int)} {sb : Int} {fb : List Bool} {nb : List (List Int)} (op : Int) (V : VB La sa fa na sb fb nb) (hlim : fa.length * fb.length ≤ 500) : (prodF op fa fb (prs sa fa na sb fb nb)).length ≤ 1000000 ∧ (prodN na nb (prs sa fa na sb fb nb)).length ≤ 1000000 ∧ ∀ row ∈ prodN na nb (prs sa fa na sb fb nb), row.length ≤ 1000000 := by
  have hP := PI.all V
  have := hP.le
  refine ⟨by simp [prodF]; omega, by simp [prodN]; omega, fun row hr => ?_⟩
  obtain ⟨x, hx, rfl⟩ := List.mem_map.1 hr
  rw [List.length_map]
  have := (V.tgs (hP.rg x hx)).1
  have := V.a.l6
  omega
theorem DfaProducts : semigrouplaw07_DfaProducts.Pure := by
  intro x y op hx hy hop
  have A : Ev (fun k => (semigrouplaw07_awake.f k).bind fun t => some t) true := ev_bind awake_ev (ev_some true)
  have J : ∀ b : Bool, (b = false → valE x.f0 x.f1 x.f2 x.f3 = 0 → valE y.f0 y.f1 y.f2 y.f3 = 0 → x.f2.length ≤ 12 ∧ y.f2.length ≤ 12) → Ev (fun k => semigrouplaw07_DfaProducts.j0 k op b x.f0 x.f1 x.f2 x.f3 y.f0 y.f1 y.f2 y.f3) true := by
    intro b hb
    refine Ev.step (fun _ => rfl) ?_
    by_cases hc : b = true
    · exact ev_pos hc A
    · have hlim : valE x.f0 x.f1 x.f2 x.f3 = 0 → valE y.f0 y.f1 y.f2 y.f3 = 0 → x.f2.length * y.f2.length ≤ 500 := fun h1 h2 => by
        obtain ⟨h3, h4⟩ := hb (by simpa using hc) h1 h2
        have := Nat.mul_le_mul h3 h4
        omega
      refine ev_neg hc (ev_bind (dprod_ev _ _ _ _ _ _ _ _ op hlim) (ev_bind (rprod_ev _ _ _ _ _ _ _ _ op hlim) (ev_pos rfl (ev_bind ?_ (ev_pos rfl A)))))
      by_cases h1 : valE x.f0 x.f1 x.f2 x.f3 = 0
      · by_cases h2 : valE y.f0 y.f1 y.f2 y.f3 = 0
        · by_cases h3 : x.f0 ≠ y.f0 ∨ op < 0 ∨ op > 15
          · rw [prodE_c h1 h2 h3]
            exact same7_ev _ _ _ _ (by simp) (by simp) (by simp)
          · rw [prodE_0 h1 h2 h3]
            have e : x.f0 = y.f0 := by omega
            have V : VB x.f0 x.f1 x.f2 x.f3 y.f1 y.f2 y.f3 := ⟨VA.of h1, by rw [e]; exact VA.of h2⟩
            have := prod_small op V (hlim h1 h2)
            exact same7_ev _ _ _ _ this.1 this.2.1 this.2.2
        · rw [prodE_b h1 h2]
          exact same7_ev _ _ _ _ (by simp) (by simp) (by simp)
      · rw [prodE_a h1]
        exact same7_ev _ _ _ _ (by simp) (by simp) (by simp)
  refine Ev.rounds (ev_bind (valid_ev _ _ _ _) ?_)
  by_cases h1 : valE x.f0 x.f1 x.f2 x.f3 = 0
  · refine ev_pos (by simp [h1]) (ev_bind (valid_ev _ _ _ _) ?_)
    by_cases h2 : valE y.f0 y.f1 y.f2 y.f3 = 0
    · refine ev_pos (by simp [h2]) ?_
      by_cases h3 : (x.f2.length : Int) > 12
      · exact ev_pos h3 (J true (fun h => by cases h))
      · refine ev_neg h3 (J _ (fun h _ _ => ?_))
        have := of_decide_eq_false h
        omega
    · exact ev_neg (by simp [h2]) (J false (fun _ _ h => absurd h h2))
  · exact ev_neg (by simp [h1]) (J false (fun _ h _ => absurd h h1))

end Go.Proofs.Ytpjbmgoagehjkaa.Pure
