/- Two ways to run a word from a state, and to tell whether it is accepted, agree. -/
import Derived.Test.YtpjbmgoagehjkaaZDfaRunsQ
namespace Go.Proofs.Ytpjbmgoagehjkaa.Pure
open Go.RowKit Go.Proofs.Ytpjbmgoagehjkaa.PDfaRuns Go.Proofs.YtpjbmgoagehjkaaW.PrintWords Go.Proofs.YtpjbmgoagehjkaaW.PrintLast Go.Proofs.YtpjbmgoagehjkaaH
set_option linter.unusedVariables false
set_option linter.unusedSimpArgs false

theorem ev_mono {α : Type} {f : Nat → Option α} {r : α} (K : Nat) (hm : ∀ k, LeO (f k) (f (k + 1))) (h : f K = some r) : Ev f r := by
  refine ⟨K, fun n hn => ?_⟩
  induction n with
  | zero => rw [show K = 0 from by omega] at h; exact h
  | succ n ih =>
    by_cases e : K = n + 1
    · rw [← e]; exact h
    · exact hm n _ (ih (by omega))

theorem words_odd : Ev (fun k => dfa_Words.f k 2 0 [false, true] [[1, 0], [0, 1]] 3) [⟨#[97]⟩, ⟨#[97, 98]⟩, ⟨#[98, 97]⟩] := by
  refine ev_mono 40 (fun k => dfa_Words.mono _ _ _ _ _ k) ?_
  kernel_rfl
theorem awake_ev : Ev (fun k => semigrouplaw07_awake.f k) true := by
  refine ev_bind0 rfl (ev_bind words_odd (ev_bind ?_ (ev_some true)))
  refine ev_mono 10 (fun k => semigroupref01_Same.mono _ _ k) ?_
  kernel_rfl

/-- A row of a valid automaton with n states and L letters. -/
def okRow (n L : Int) (row : List Int) : Bool := decide ((row.length : Int) = L) && row.all (fun q => decide (0 ≤ q ∧ q < n))
/-- What is wrong with an automaton. -/
def valE (L s : Int) (fin : List Bool) (next : List (List Int)) : Int :=
  if L < 1 ∨ L > 6 then 1 else if fin.length > 512 then 3 else if fin.length = 0 ∨ next.length ≠ fin.length ∨ s < 0 ∨ s ≥ (fin.length : Int) then 4
  else if next.all (okRow fin.length L) then 0 else 4
theorem rdL_at (l : List (List Int)) (i : Nat) (h : i < l.length) : rd_L1 l (i : Int) = l[i] := by simp [rd_L1, List.getD, h]
theorem dval_l1 (n L s : Int) (fin : List Bool) (next rows : List (List Int)) (len i : Int) (row : List Int) (hn : row.length ≤ 1000) (r : Int) : ∀ (d j : Nat), row.length - j = d → j ≤ row.length →
    ((row.drop j).all (fun q => decide (0 ≤ q ∧ q < n)) = true → Ev (fun k => dfa_Validate.l0 k n rows len (wrap64 (i + 1)) L s fin next) r) →
    (¬ (row.drop j).all (fun q => decide (0 ≤ q ∧ q < n)) = true → r = 4) →
    Ev (fun k => dfa_Validate.l1 k n rows len i row (row.length : Int) (j : Int) L s fin next) r := by
  intro d
  induction d with
  | zero =>
    intro j hd hj h h'
    exact Ev.step (fun _ => rfl) (ev_neg (by omega) (h (by rw [List.drop_eq_nil_of_le (by omega)]; rfl)))
  | succ d ih =>
    intro j hd hj h h'
    have hlt : j < row.length := by omega
    rw [List.drop_eq_getElem_cons hlt, List.all_cons] at h h'
    refine Ev.step (fun _ => rfl) (ev_pos (by omega) (ev_pos (by omega) (ev_pos (by omega) ?_)))
    rw [rd_at row j hlt]
    by_cases h1 : row[j] < 0
    · exact ev_pos h1 (ev_eq (ev_some 4) (h' (by rw [decide_eq_false (by omega)]; simp)).symm)
    · refine ev_neg h1 ?_
      by_cases h2 : row[j] ≥ n
      · exact ev_pos h2 (ev_eq (ev_some 4) (h' (by rw [decide_eq_false (by omega)]; simp)).symm)
      · refine ev_neg h2 ?_
        rw [wrap_succ hlt (by omega)]
        rw [decide_eq_true (show 0 ≤ row[j] ∧ row[j] < n by omega), Bool.true_and] at h h'
        exact ih (j + 1) (by omega) (by omega) h h'
theorem dval_l0 (n L s : Int) (hL : 0 ≤ L ∧ L ≤ 6) (fin : List Bool) (next rows : List (List Int)) (hr : rows.length ≤ 1000) : ∀ (d i : Nat), rows.length - i = d → i ≤ rows.length →
    Ev (fun k => dfa_Validate.l0 k n rows (rows.length : Int) (i : Int) L s fin next) (if (rows.drop i).all (okRow n L) then 0 else 4) := by
  intro d
  induction d with
  | zero =>
    intro i hd hi
    exact Ev.step (fun _ => rfl) (ev_neg (by omega) (ev_eq (ev_some 0) (by rw [List.drop_eq_nil_of_le (by omega)]; rfl)))
  | succ d ih =>
    intro i hd hi
    have hlt : i < rows.length := by omega
    rw [List.drop_eq_getElem_cons hlt, List.all_cons]
    refine Ev.step (fun _ => rfl) (ev_pos (by omega) (ev_pos (by omega) (ev_pos (by omega) ?_)))
    rw [rdL_at rows i hlt]
    by_cases h1 : (rows[i].length : Int) = L
    · refine ev_pos h1 (dval_l1 n L s fin next rows _ i rows[i] (by omega) _ _ 0 rfl (by omega) (fun h => ?_) (fun h => ?_))
      · rw [List.drop_zero] at h
        rw [wrap_succ hlt (by omega), show okRow n L rows[i] = true from by unfold okRow; rw [h, decide_eq_true h1]; rfl, Bool.true_and]
        exact ih (i + 1) (by omega) (by omega)
      · rw [List.drop_zero] at h
        rw [show okRow n L rows[i] = false from by unfold okRow; rw [Bool.not_eq_true] at h; rw [h, Bool.and_false], Bool.false_and]
        rfl
    · refine ev_neg h1 (ev_eq (ev_some 4) ?_)
      rw [show okRow n L rows[i] = false from by unfold okRow; rw [decide_eq_false h1, Bool.false_and], Bool.false_and]
      rfl
theorem dval_ev (L s : Int) (fin : List Bool) (next : List (List Int)) : Ev (fun k => dfa_Validate.f k L s fin next) (valE L s fin next) := by
  have J : ∀ b : Bool, b = decide (L < 1 ∨ L > 6) → Ev (fun k => dfa_Validate.j0 k (fin.length : Int) b L s fin next) (valE L s fin next) := by
    intro b e
    unfold valE
    by_cases h1 : L < 1 ∨ L > 6
    · rw [decide_eq_true h1] at e
      rw [if_pos h1]
      exact Ev.step (fun _ => rfl) (ev_pos e (ev_some 1))
    · rw [decide_eq_false h1] at e
      rw [if_neg h1]
      refine Ev.step (fun _ => rfl) (ev_neg (by simp [e]) ?_)
      by_cases h2 : fin.length > 512
      · rw [if_pos h2]
        exact ev_pos (by omega) (ev_some 3)
      · rw [if_neg h2]
        refine ev_neg (by omega) ?_
        by_cases h3 : fin.length = 0
        · rw [if_pos (.inl h3)]
          exact ev_pos (by omega) (ev_some 4)
        · refine ev_neg (by omega) ?_
          by_cases h4 : next.length = fin.length
          · refine ev_pos (by omega) ?_
            by_cases h5 : s < 0
            · rw [if_pos (.inr (.inr (.inl h5)))]
              exact ev_pos h5 (ev_some 4)
            · refine ev_neg h5 ?_
              by_cases h6 : s ≥ (fin.length : Int)
              · rw [if_pos (.inr (.inr (.inr h6)))]
                exact ev_pos h6 (ev_some 4)
              · rw [if_neg (by omega)]
                refine ev_neg h6 ?_
                have := dval_l0 (fin.length : Int) L s (by omega) fin next next (by omega) _ 0 rfl (by omega)
                rwa [List.drop_zero] at this
          · rw [if_pos (.inr (.inl h4))]
            exact ev_neg (by omega) (ev_some 4)
  by_cases h : L < 1
  · exact ev_pos h (J true (by rw [decide_eq_true (.inl h)]))
  · exact ev_neg h (J _ (by simp only [h, false_or]))

theorem rval_l1 (n L s : Int) (fin : List Bool) (next rows : List (List Int)) (len i : Int) (row : List Int) (hn : row.length ≤ 1000) (r : Int) : ∀ (d j : Nat), row.length - j = d → j ≤ row.length →
    ((row.drop j).all (fun q => decide (0 ≤ q ∧ q < n)) = true → Ev (fun k => semigroupref07_Validate.l0 k n rows len (wrap64 (i + 1)) L s fin next) r) →
    (¬ (row.drop j).all (fun q => decide (0 ≤ q ∧ q < n)) = true → r = 4) →
    Ev (fun k => semigroupref07_Validate.l1 k n rows len i row (row.length : Int) (j : Int) L s fin next) r := by
  intro d
  induction d with
  | zero =>
    intro j hd hj h h'
    exact Ev.step (fun _ => rfl) (ev_neg (by omega) (h (by rw [List.drop_eq_nil_of_le (by omega)]; rfl)))
  | succ d ih =>
    intro j hd hj h h'
    have hlt : j < row.length := by omega
    rw [List.drop_eq_getElem_cons hlt, List.all_cons] at h h'
    refine Ev.step (fun _ => rfl) (ev_pos (by omega) (ev_pos (by omega) (ev_pos (by omega) ?_)))
    rw [rd_at row j hlt]
    by_cases h1 : row[j] < 0
    · exact ev_pos h1 (ev_eq (ev_some 4) (h' (by rw [decide_eq_false (by omega)]; simp)).symm)
    · refine ev_neg h1 ?_
      by_cases h2 : row[j] ≥ n
      · exact ev_pos h2 (ev_eq (ev_some 4) (h' (by rw [decide_eq_false (by omega)]; simp)).symm)
      · refine ev_neg h2 ?_
        rw [wrap_succ hlt (by omega)]
        rw [decide_eq_true (show 0 ≤ row[j] ∧ row[j] < n by omega), Bool.true_and] at h h'
        exact ih (j + 1) (by omega) (by omega) h h'
theorem rval_l0 (n L s : Int) (hL : 0 ≤ L ∧ L ≤ 6) (fin : List Bool) (next rows : List (List Int)) (hr : rows.length ≤ 1000) : ∀ (d i : Nat), rows.length - i = d → i ≤ rows.length →
    Ev (fun k => semigroupref07_Validate.l0 k n rows (rows.length : Int) (i : Int) L s fin next) (if (rows.drop i).all (okRow n L) then 0 else 4) := by
  intro d
  induction d with
  | zero =>
    intro i hd hi
    exact Ev.step (fun _ => rfl) (ev_neg (by omega) (ev_eq (ev_some 0) (by rw [List.drop_eq_nil_of_le (by omega)]; rfl)))
  | succ d ih =>
    intro i hd hi
    have hlt : i < rows.length := by omega
    rw [List.drop_eq_getElem_cons hlt, List.all_cons]
    refine Ev.step (fun _ => rfl) (ev_pos (by omega) (ev_pos (by omega) (ev_pos (by omega) ?_)))
    rw [rdL_at rows i hlt]
    by_cases h1 : (rows[i].length : Int) = L
    · refine ev_pos h1 (rval_l1 n L s fin next rows _ i rows[i] (by omega) _ _ 0 rfl (by omega) (fun h => ?_) (fun h => ?_))
      · rw [List.drop_zero] at h
        rw [wrap_succ hlt (by omega), show okRow n L rows[i] = true from by unfold okRow; rw [h, decide_eq_true h1]; rfl, Bool.true_and]
        exact ih (i + 1) (by omega) (by omega)
      · rw [List.drop_zero] at h
        rw [show okRow n L rows[i] = false from by unfold okRow; rw [Bool.not_eq_true] at h; rw [h, Bool.and_false], Bool.false_and]
        rfl
    · refine ev_neg h1 (ev_eq (ev_some 4) ?_)
      rw [show okRow n L rows[i] = false from by unfold okRow; rw [decide_eq_false h1, Bool.false_and], Bool.false_and]
      rfl
theorem rval_ev (L s : Int) (fin : List Bool) (next : List (List Int)) : Ev (fun k => semigroupref07_Validate.f k L s fin next) (valE L s fin next) := by
  by_cases h1 : L < 1 ∨ L > 6
  · have hm : semigroupref01_MayLetters.f L = some false := by
      unfold semigroupref01_MayLetters.f
      by_cases h : L ≥ 1
      · rw [if_pos h, decide_eq_false (by omega)]
      · rw [if_neg h]
    refine ev_bind0 hm (ev_neg (by simp) (ev_eq (ev_some 1) ?_))
    unfold valE
    rw [if_pos h1]
  · have hm : semigroupref01_MayLetters.f L = some true := by
      unfold semigroupref01_MayLetters.f
      rw [if_pos (by omega), decide_eq_true (by omega)]
    refine ev_bind0 hm (ev_pos rfl ?_)
    unfold valE
    rw [if_neg h1]
    by_cases h2 : fin.length > 512
    · rw [if_pos h2]
      exact ev_pos (by omega) (ev_some 3)
    · rw [if_neg h2]
      refine ev_neg (by omega) ?_
      have J : ∀ b : Bool, b = decide (fin.length = 0 ∨ next.length ≠ fin.length ∨ s < 0 ∨ s ≥ (fin.length : Int)) → Ev (fun k => semigroupref07_Validate.j0 k (fin.length : Int) b L s fin next) (if fin.length = 0 ∨ next.length ≠ fin.length ∨ s < 0 ∨ s ≥ (fin.length : Int) then 4 else if next.all (okRow fin.length L) then 0 else 4) := by
        intro b e
        by_cases h3 : fin.length = 0 ∨ next.length ≠ fin.length ∨ s < 0 ∨ s ≥ (fin.length : Int)
        · rw [decide_eq_true h3] at e
          rw [if_pos h3]
          exact Ev.step (fun _ => rfl) (ev_pos e (ev_some 4))
        · rw [decide_eq_false h3] at e
          rw [if_neg h3]
          refine Ev.step (fun _ => rfl) (ev_neg (by simp [e]) ?_)
          have := rval_l0 (fin.length : Int) L s (by omega) fin next next (by omega) _ 0 rfl (by omega)
          rwa [List.drop_zero] at this
      by_cases h3 : fin.length = 0
      · exact ev_pos (by omega) (J true (decide_eq_true (.inl h3)).symm)
      · refine ev_neg (by omega) ?_
        by_cases h4 : next.length = fin.length
        · refine ev_pos (by omega) ?_
          by_cases h5 : s < 0
          · exact ev_pos h5 (J true (decide_eq_true (.inr (.inr (.inl h5)))).symm)
          · refine ev_neg h5 (J _ ?_)
            by_cases h6 : s ≥ (fin.length : Int)
            · rw [decide_eq_true h6, decide_eq_true (.inr (.inr (.inr h6)))]
            · rw [decide_eq_false h6, decide_eq_false (by omega)]
        · exact ev_neg (by omega) (J true (decide_eq_true (.inr (.inl h4))).symm)

theorem valid_ev (L s : Int) (fin : List Bool) (next : List (List Int)) : Ev (fun k => semigrouplaw07_valid.f k L s fin next) (valE L s fin next == 0) :=
  ev_bind (rval_ev _ _ _ _) (ev_some _)

theorem valE_zero {L s : Int} {fin : List Bool} {next : List (List Int)} (h : valE L s fin next = 0) :
    1 ≤ L ∧ L ≤ 6 ∧ 0 < fin.length ∧ fin.length ≤ 512 ∧ next.length = fin.length ∧ 0 ≤ s ∧ s < (fin.length : Int) ∧ ∀ row ∈ next, (row.length : Int) = L ∧ ∀ q ∈ row, 0 ≤ q ∧ q < (fin.length : Int) := by
  unfold valE at h
  by_cases h1 : L < 1 ∨ L > 6
  · rw [if_pos h1] at h; cases h
  rw [if_neg h1] at h
  by_cases h2 : fin.length > 512
  · rw [if_pos h2] at h; cases h
  rw [if_neg h2] at h
  by_cases h3 : fin.length = 0 ∨ next.length ≠ fin.length ∨ s < 0 ∨ s ≥ (fin.length : Int)
  · rw [if_pos h3] at h; cases h
  rw [if_neg h3] at h
  by_cases h4 : next.all (okRow fin.length L) = true
  · refine ⟨by omega, by omega, by omega, by omega, by omega, by omega, by omega, fun row hr => ?_⟩
    have h5 := List.all_eq_true.1 h4 row hr
    simp only [okRow, Bool.and_eq_true, decide_eq_true_eq, List.all_eq_true] at h5
    exact h5
  · rw [if_neg h4] at h; cases h
theorem valE_no {L s : Int} {fin : List Bool} {next : List (List Int)} : valE L s fin next = 0 ∨ valE L s fin next = 1 ∨ valE L s fin next = 3 ∨ valE L s fin next = 4 := by
  unfold valE
  repeat' split
  all_goals simp

/-- A word's letters. -/
def lets (w : ByteArray) : List Int := (List.range w.size).map (fun i : Nat => (bt w (i : Int) - 97) % 256)
def wok (w : ByteArray) (L : Int) : Bool := (List.range w.size).all (fun i : Nat => decide (97 ≤ bt w (i : Int) ∧ (bt w (i : Int) - 97) % 256 < L))
def wvalid (w : ByteArray) (L : Int) : Bool := decide (1 ≤ L ∧ L ≤ 6 ∧ w.size ≤ 2048) && wok w L
def go1 (next : List (List Int)) (q a : Int) : Int := rd (rd_L1 next q) a
def runs (next : List (List Int)) (q : Int) (ls : List Int) : Int := ls.foldl (go1 next) q
theorem lets_length (w : ByteArray) : (lets w).length = w.size := by simp [lets]
theorem lets_at (w : ByteArray) (i : Nat) (h : i < (lets w).length) : (lets w)[i] = (bt w (i : Int) - 97) % 256 := by simp [lets]
theorem lets_ok {w : ByteArray} {L : Int} (h : wok w L = true) : ∀ a ∈ lets w, 0 ≤ a ∧ a < L := by
  intro a ha
  simp only [lets, List.mem_map, List.mem_range] at ha
  obtain ⟨i, hi, rfl⟩ := ha
  have := List.all_eq_true.1 h i (List.mem_range.2 hi)
  simp only [decide_eq_true_eq] at this
  exact ⟨by omega, this.2⟩

theorem go1_ok {next : List (List Int)} {L n : Int} (hv : ∀ row ∈ next, (row.length : Int) = L ∧ ∀ q ∈ row, 0 ≤ q ∧ q < n) {q a : Int} (h0 : 0 ≤ q) (h1 : q < (next.length : Int)) (a0 : 0 ≤ a) (a1 : a < L) : ((rd_L1 next q).length : Int) = L ∧ 0 ≤ go1 next q a ∧ go1 next q a < n := by
  obtain ⟨m, rfl⟩ : ∃ m : Nat, q = (m : Int) := ⟨q.toNat, by omega⟩
  obtain ⟨c, rfl⟩ : ∃ c : Nat, a = (c : Int) := ⟨a.toNat, by omega⟩
  have hm : m < next.length := by omega
  unfold go1
  rw [rdL_at next m hm]
  obtain ⟨h2, h3⟩ := hv next[m] (List.getElem_mem hm)
  have hc : c < next[m].length := by omega
  rw [rd_at _ c hc]
  exact ⟨h2, h3 _ (List.getElem_mem hc)⟩
theorem runs_ok {next : List (List Int)} {L : Int} (hv : ∀ row ∈ next, (row.length : Int) = L ∧ ∀ q ∈ row, 0 ≤ q ∧ q < (next.length : Int)) : ∀ (ls : List Int) (q : Int), 0 ≤ q → q < (next.length : Int) → (∀ a ∈ ls, 0 ≤ a ∧ a < L) → 0 ≤ runs next q ls ∧ runs next q ls < (next.length : Int)
  | [], q, h0, h1, _ => ⟨h0, h1⟩
  | a :: ls, q, h0, h1, h => by
    have ha := h a (by simp)
    have hg := (go1_ok hv h0 h1 ha.1 ha.2).2
    exact runs_ok hv ls (go1 next q a) hg.1 hg.2 (fun b hb => h b (List.mem_cons_of_mem _ hb))

theorem wv_l0 (w : ByteArray) (L : Int) (hw : w.size ≤ 2048) (hL : 1 ≤ L ∧ L ≤ 6) : ∀ (d i : Nat), w.size - i = d → i ≤ w.size →
    Ev (fun k => word_Valid.l0 k w L (i : Int)) ((List.range' i (w.size - i)).all (fun i : Nat => decide (97 ≤ bt w (i : Int) ∧ (bt w (i : Int) - 97) % 256 < L))) := by
  intro d
  induction d with
  | zero =>
    intro i hd hi
    exact Ev.step (fun _ => rfl) (ev_neg (by omega) (ev_eq (ev_some true) (by rw [hd]; rfl)))
  | succ d ih =>
    intro i hd hi
    have hlt : i < w.size := by omega
    rw [hd, List.range'_succ, List.all_cons]
    refine Ev.step (fun _ => rfl) (ev_pos (by omega) (ev_pos (by omega) ?_))
    by_cases h1 : bt w (i : Int) < 97
    · exact ev_pos h1 (ev_eq (ev_some false) (by rw [decide_eq_false (by omega), Bool.false_and]))
    · refine ev_neg h1 ?_
      by_cases h2 : (bt w (i : Int) - 97) % 256 ≥ L
      · exact ev_pos h2 (ev_eq (ev_some false) (by rw [decide_eq_false (by omega), Bool.false_and]))
      · refine ev_neg h2 ?_
        rw [wrap_succ hlt (by omega), decide_eq_true (show 97 ≤ bt w (i : Int) ∧ (bt w (i : Int) - 97) % 256 < L by omega), Bool.true_and]
        have := ih (i + 1) (by omega) (by omega)
        rwa [show w.size - (i + 1) = d by omega] at this
theorem wv_ev (w : ByteArray) (L : Int) : Ev (fun k => word_Valid.f k w L) (wvalid w L) := by
  have J : ∀ b : Bool, b = true → Ev (fun k => word_Valid.j0 k w L b) false := fun b e => Ev.step (fun _ => rfl) (ev_pos e (ev_some false))
  unfold wvalid
  by_cases h1 : L < 1
  · rw [show decide (1 ≤ L ∧ L ≤ 6 ∧ w.size ≤ 2048) = false from decide_eq_false (by omega), Bool.false_and]
    exact ev_pos h1 (J true rfl)
  refine ev_neg h1 ?_
  by_cases h2 : L > 6
  · rw [show decide (1 ≤ L ∧ L ≤ 6 ∧ w.size ≤ 2048) = false from decide_eq_false (by omega), Bool.false_and]
    exact ev_pos h2 (J true rfl)
  refine ev_neg h2 ?_
  by_cases h3 : w.size > 2048
  · rw [show decide (1 ≤ L ∧ L ≤ 6 ∧ w.size ≤ 2048) = false from decide_eq_false (by omega), Bool.false_and]
    exact J _ (decide_eq_true (by omega))
  · rw [show decide (1 ≤ L ∧ L ≤ 6 ∧ w.size ≤ 2048) = true from decide_eq_true (by omega), Bool.true_and]
    have K : ∀ b : Bool, b = false → Ev (fun k => word_Valid.j0 k w L b) (wok w L) := by
      intro b e
      refine Ev.step (fun _ => rfl) (ev_neg (by simp [e]) ?_)
      have := wv_l0 w L (by omega) (by omega) _ 0 rfl (by omega)
      rwa [Nat.sub_zero, ← List.range_eq_range'] at this
    exact K _ (decide_eq_false (by omega))

theorem drun_l0 (L s : Int) (fin : List Bool) (next : List (List Int)) (w : ByteArray) (hw : w.size ≤ 2048) (hv : ∀ row ∈ next, (row.length : Int) = L ∧ ∀ q ∈ row, 0 ≤ q ∧ q < (next.length : Int)) (hok : wok w L = true) : ∀ (d i : Nat) (q : Int), w.size - i = d → i ≤ w.size → 0 ≤ q → q < (next.length : Int) →
    Ev (fun k => dfa_run.l0 k q w (i : Int) L s fin next) (runs next q ((lets w).drop i)) := by
  have hll := lets_length w
  intro d
  induction d with
  | zero =>
    intro i q hd hi h0 h1
    rw [List.drop_eq_nil_of_le (by omega)]
    exact Ev.step (fun _ => rfl) (ev_neg (by omega) (ev_some q))
  | succ d ih =>
    intro i q hd hi h0 h1
    have hlt : i < (lets w).length := by omega
    rw [List.drop_eq_getElem_cons hlt]
    have ha := lets_ok hok _ (List.getElem_mem hlt)
    rw [lets_at] at ha ⊢
    have hg := go1_ok hv h0 h1 ha.1 ha.2
    refine Ev.step (fun _ => rfl) (ev_pos (by omega) (ev_pos h0 (ev_pos h1 (ev_pos (by omega) (ev_pos ha.1 (ev_pos (by omega) ?_))))))
    rw [wrap_succ (show i < w.size by omega) (by omega)]
    exact ih (i + 1) (go1 next q _) (by omega) (by omega) hg.2.1 hg.2.2
/-- Where a word leads, or -1. -/
def runE (L s : Int) (fin : List Bool) (next : List (List Int)) (q : Int) (w : ByteArray) : Int :=
  if valE L s fin next = 0 ∧ 0 ≤ q ∧ q < (fin.length : Int) ∧ wvalid w L = true then runs next q (lets w) else -1
theorem runE_ok {L s : Int} {fin : List Bool} {next : List (List Int)} {q : Int} {w : ByteArray} : runE L s fin next q w = -1 ∨ 0 ≤ runE L s fin next q w ∧ runE L s fin next q w < (fin.length : Int) := by
  unfold runE
  split
  · rename_i h
    obtain ⟨v1, v2, v3, v4, v5, v6, v7, v8⟩ := valE_zero h.1
    have h4 := h.2.2.2
    unfold wvalid at h4
    rw [Bool.and_eq_true] at h4
    have := runs_ok (L := L) (next := next) (fun row hr => by rw [v5]; exact v8 row hr) (lets w) q h.2.1 (by omega) (lets_ok h4.2)
    omega
  · exact .inl rfl
theorem dRun_ev (L s : Int) (fin : List Bool) (next : List (List Int)) (q : Int) (w : ByteArray) : Ev (fun k => dfa_Run.f k L s fin next q w) (runE L s fin next q w) := by
  have J : ∀ b : Bool, b = true → Ev (fun k => dfa_Run.j0 k q w b L s fin next) (-1) := fun b e => Ev.step (fun _ => rfl) (ev_pos e (ev_some (-1)))
  refine ev_bind (dval_ev _ _ _ _) ?_
  unfold runE
  by_cases hv : valE L s fin next = 0
  · refine ev_pos hv ?_
    by_cases h1 : q < 0
    · rw [if_neg (by omega)]
      exact ev_pos h1 (J true rfl)
    refine ev_neg h1 ?_
    by_cases h2 : q ≥ (fin.length : Int)
    · rw [if_neg (by omega)]
      exact ev_pos h2 (J true rfl)
    refine ev_neg h2 (ev_bind (wv_ev w L) ?_)
    by_cases h3 : wvalid w L = true
    · rw [if_pos ⟨hv, by omega, by omega, h3⟩]
      obtain ⟨v1, v2, v3, v4, v5, v6, v7, v8⟩ := valE_zero hv
      have h4 := h3
      unfold wvalid at h4
      rw [Bool.and_eq_true, decide_eq_true_eq] at h4
      have K : ∀ b : Bool, b = false → Ev (fun k => dfa_Run.j0 k q w b L s fin next) (runs next q (lets w)) := by
        intro b e
        refine Ev.step (fun _ => rfl) (ev_neg (by simp [e]) (ev_bind ?_ (ev_some _)))
        have := drun_l0 L s fin next w h4.1.2.2 (fun row hr => by rw [v5]; exact v8 row hr) h4.2 _ 0 q rfl (by omega) (by omega) (by omega)
        rwa [List.drop_zero] at this
      exact K _ (by rw [h3]; rfl)
    · rw [if_neg (fun h => h3 h.2.2.2)]
      exact J _ (by rw [Bool.not_eq_true] at h3; rw [h3]; rfl)
  · rw [if_neg (fun h => hv h.1)]
    exact ev_neg hv (J true rfl)
/-- Whether a word is accepted. -/
def accE (L s : Int) (fin : List Bool) (next : List (List Int)) (w : ByteArray) : Bool :=
  if 0 ≤ runE L s fin next s w then rdOf false fin (runE L s fin next s w) else false
theorem dAcc_ev (L s : Int) (fin : List Bool) (next : List (List Int)) (w : ByteArray) : Ev (fun k => dfa_Accepts.f k L s fin next w) (accE L s fin next w) := by
  refine ev_bind (dRun_ev _ _ _ _ _ _) ?_
  unfold accE
  by_cases h : 0 ≤ runE L s fin next s w
  · exact ev_eq (ev_pos h (ev_pos h (ev_pos (by have := @runE_ok L s fin next s w; omega) (ev_some _)))) (if_pos h).symm
  · exact ev_eq (ev_neg h (ev_some false)) (if_neg h).symm

theorem rwv_l0 (w : ByteArray) (L : Int) (hw : w.size ≤ 2048) (hL : 1 ≤ L ∧ L ≤ 6) : ∀ (d i : Nat), w.size - i = d → i ≤ w.size →
    Ev (fun k => semigroupref01_Valid.l0 k w L (i : Int)) ((List.range' i (w.size - i)).all (fun i : Nat => decide (97 ≤ bt w (i : Int) ∧ (bt w (i : Int) - 97) % 256 < L))) := by
  intro d
  induction d with
  | zero =>
    intro i hd hi
    exact Ev.step (fun _ => rfl) (ev_neg (by omega) (ev_eq (ev_some true) (by rw [hd]; rfl)))
  | succ d ih =>
    intro i hd hi
    have hlt : i < w.size := by omega
    rw [hd, List.range'_succ, List.all_cons]
    refine Ev.step (fun _ => rfl) (ev_pos (by omega) (ev_pos (by omega) ?_))
    by_cases h1 : bt w (i : Int) < 97
    · exact ev_pos h1 (ev_eq (ev_some false) (by rw [decide_eq_false (by omega), Bool.false_and]))
    · refine ev_neg h1 ?_
      by_cases h2 : (bt w (i : Int) - 97) % 256 ≥ L
      · exact ev_pos h2 (ev_eq (ev_some false) (by rw [decide_eq_false (by omega), Bool.false_and]))
      · refine ev_neg h2 ?_
        rw [wrap_succ hlt (by omega), decide_eq_true (show 97 ≤ bt w (i : Int) ∧ (bt w (i : Int) - 97) % 256 < L by omega), Bool.true_and]
        have := ih (i + 1) (by omega) (by omega)
        rwa [show w.size - (i + 1) = d by omega] at this
theorem rwv_ev (w : ByteArray) (L : Int) : Ev (fun k => semigroupref01_Valid.f k w L) (wvalid w L) := by
  have J : ∀ b : Bool, b = true → Ev (fun k => semigroupref01_Valid.j0 k w L b) false := fun b e => Ev.step (fun _ => rfl) (ev_pos e (ev_some false))
  have hm : semigroupref01_MayLetters.f L = some (decide (1 ≤ L ∧ L ≤ 6)) := by
    unfold semigroupref01_MayLetters.f
    by_cases h : L ≥ 1
    · rw [if_pos h]
      congr 1
      by_cases h' : L ≤ 6
      · rw [decide_eq_true h', decide_eq_true (by omega)]
      · rw [decide_eq_false h', decide_eq_false (by omega)]
    · rw [if_neg h, decide_eq_false (by omega)]
  refine ev_bind0 hm ?_
  unfold wvalid
  by_cases h1 : 1 ≤ L ∧ L ≤ 6
  · refine ev_pos (decide_eq_true h1) ?_
    by_cases h3 : w.size > 2048
    · rw [show decide (1 ≤ L ∧ L ≤ 6 ∧ w.size ≤ 2048) = false from decide_eq_false (by omega), Bool.false_and]
      exact J _ (decide_eq_true (by omega))
    · rw [show decide (1 ≤ L ∧ L ≤ 6 ∧ w.size ≤ 2048) = true from decide_eq_true (by omega), Bool.true_and]
      have K : ∀ b : Bool, b = false → Ev (fun k => semigroupref01_Valid.j0 k w L b) (wok w L) := by
        intro b e
        refine Ev.step (fun _ => rfl) (ev_neg (by simp [e]) ?_)
        have := rwv_l0 w L (by omega) (by omega) _ 0 rfl (by omega)
        rwa [Nat.sub_zero, ← List.range_eq_range'] at this
      exact K _ (decide_eq_false (by omega))
  · rw [show decide (1 ≤ L ∧ L ≤ 6 ∧ w.size ≤ 2048) = false from decide_eq_false (by omega), Bool.false_and]
    exact ev_neg (by rw [decide_eq_false h1]; simp) (J true rfl)

theorem rrun_l0 (L s : Int) (fin : List Bool) (next : List (List Int)) (w : ByteArray) (hw : w.size ≤ 2048) (hv : ∀ row ∈ next, (row.length : Int) = L ∧ ∀ q ∈ row, 0 ≤ q ∧ q < (next.length : Int)) (hok : wok w L = true) : ∀ (d i : Nat) (q : Int), w.size - i = d → i ≤ w.size → 0 ≤ q → q < (next.length : Int) →
    Ev (fun k => semigroupref07_Run.l0 k q w (i : Int) L s fin next) (runs next q ((lets w).drop i)) := by
  have hll := lets_length w
  intro d
  induction d with
  | zero =>
    intro i q hd hi h0 h1
    rw [List.drop_eq_nil_of_le (by omega)]
    exact Ev.step (fun _ => rfl) (ev_neg (by omega) (ev_some q))
  | succ d ih =>
    intro i q hd hi h0 h1
    have hlt : i < (lets w).length := by omega
    rw [List.drop_eq_getElem_cons hlt]
    have ha := lets_ok hok _ (List.getElem_mem hlt)
    rw [lets_at] at ha ⊢
    have hg := go1_ok hv h0 h1 ha.1 ha.2
    refine Ev.step (fun _ => rfl) (ev_pos (by omega) (ev_pos h0 (ev_pos h1 (ev_pos (by omega) (ev_pos ha.1 (ev_pos (by omega) ?_))))))
    rw [wrap_succ (show i < w.size by omega) (by omega)]
    exact ih (i + 1) (go1 next q _) (by omega) (by omega) hg.2.1 hg.2.2
theorem rRun_ev (L s : Int) (fin : List Bool) (next : List (List Int)) (hv : valE L s fin next = 0) (q : Int) (w : ByteArray) : Ev (fun k => semigroupref07_Run.f k L s fin next q w) (runE L s fin next q w) := by
  have J : ∀ b : Bool, b = true → Ev (fun k => semigroupref07_Run.j0 k q w b L s fin next) (-1) := fun b e => Ev.step (fun _ => rfl) (ev_pos e (ev_some (-1)))
  unfold runE
  by_cases h1 : q < 0
  · rw [if_neg (by omega)]
    exact ev_pos h1 (J true rfl)
  refine ev_neg h1 ?_
  by_cases h2 : q ≥ (fin.length : Int)
  · rw [if_neg (by omega)]
    exact ev_pos h2 (J true rfl)
  refine ev_neg h2 (ev_bind (rwv_ev w L) ?_)
  by_cases h3 : wvalid w L = true
  · rw [if_pos ⟨hv, by omega, by omega, h3⟩]
    obtain ⟨v1, v2, v3, v4, v5, v6, v7, v8⟩ := valE_zero hv
    have h4 := h3
    unfold wvalid at h4
    rw [Bool.and_eq_true, decide_eq_true_eq] at h4
    have K : ∀ b : Bool, b = false → Ev (fun k => semigroupref07_Run.j0 k q w b L s fin next) (runs next q (lets w)) := by
      intro b e
      refine Ev.step (fun _ => rfl) (ev_neg (by simp [e]) ?_)
      have := rrun_l0 L s fin next w h4.1.2.2 (fun row hr => by rw [v5]; exact v8 row hr) h4.2 _ 0 q rfl (by omega) (by omega) (by omega)
      rwa [List.drop_zero] at this
    exact K _ (by rw [h3]; rfl)
  · rw [if_neg (fun h => h3 h.2.2.2)]
    exact J _ (by rw [Bool.not_eq_true] at h3; rw [h3]; rfl)
theorem rAcc_ev (L s : Int) (fin : List Bool) (next : List (List Int)) (hv : valE L s fin next = 0) (w : ByteArray) : Ev (fun k => semigroupref07_Accepts.f k L s fin next w) (accE L s fin next w) := by
  refine ev_bind (rRun_ev _ _ _ _ hv _ _) ?_
  unfold accE
  by_cases h : 0 ≤ runE L s fin next s w
  · exact ev_eq (ev_pos h (ev_pos h (ev_pos (by have := @runE_ok L s fin next s w; omega) (ev_some _)))) (if_pos h).symm
  · exact ev_eq (ev_neg h (ev_some false)) (if_neg h).symm

theorem DfaRuns : semigrouplaw07_DfaRuns.Pure := by
  intro x q w hx hq hw
  have A : Ev (fun k => (semigrouplaw07_awake.f k).bind fun t => some t) true := ev_bind awake_ev (ev_some true)
  refine Ev.rounds (ev_bind (dRun_ev _ _ _ _ q w) (ev_bind (dAcc_ev _ _ _ _ w) (ev_bind (valid_ev _ _ _ _) ?_)))
  by_cases hv : valE x.f0 x.f1 x.f2 x.f3 = 0
  · exact ev_pos (by simp [hv]) (ev_bind (rRun_ev _ _ _ _ hv q w) (ev_pos rfl (ev_bind (rAcc_ev _ _ _ _ hv w) (ev_pos (by simp) A))))
  · have h1 : ∀ q, runE x.f0 x.f1 x.f2 x.f3 q w = -1 := fun q => if_neg (fun h => hv h.1)
    have h2 : accE x.f0 x.f1 x.f2 x.f3 w = false := by
      unfold accE
      rw [h1, if_neg (by omega)]
    exact ev_neg (by simp [hv]) (ev_pos (h1 q) (ev_neg (by simp [h2]) A))

end Go.Proofs.Ytpjbmgoagehjkaa.Pure
