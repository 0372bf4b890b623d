/- Two ways to count the accepted words of a length agree. -/
import Derived.Test.YtpjbmgoagehjkaaZDfaCountsQ
namespace Go.Proofs.Ytpjbmgoagehjkaa.Pure
open Go.RowKit Go.Proofs.Ytpjbmgoagehjkaa.PDfaCounts Go.Proofs.YtpjbmgoagehjkaaW.PrintWords Go.Proofs.YtpjbmgoagehjkaaW.PrintLast Go.Proofs.YtpjbmgoagehjkaaH
set_option linter.unusedVariables false
set_option linter.unusedSimpArgs false

theorem ev_mono {α : Type} {f : Nat → Option α} {r : α} (K : Nat) (hm : ∀ k, LeO (f k) (f (k + 1))) (h : f K = some r) : Ev f r := by
  refine ⟨K, fun n hn => ?_⟩
  induction n with
  | zero => rw [show K = 0 from by omega] at h; exact h
  | succ n ih =>
    by_cases e : K = n + 1
    · rw [← e]; exact h
    · exact hm n _ (ih (by omega))

theorem words_odd : Ev (fun k => dfa_Words.f k 2 0 [false, true] [[1, 0], [0, 1]] 3) [⟨#[97]⟩, ⟨#[97, 98]⟩, ⟨#[98, 97]⟩] := by
  refine ev_mono 40 (fun k => dfa_Words.mono _ _ _ _ _ k) ?_
  kernel_rfl
theorem awake_ev : Ev (fun k => semigrouplaw07_awake.f k) true := by
  refine ev_bind0 rfl (ev_bind words_odd (ev_bind ?_ (ev_some true)))
  refine ev_mono 10 (fun k => semigroupref01_Same.mono _ _ k) ?_
  kernel_rfl

/-- A row of a valid automaton with n states and L letters. -/
def okRow (n L : Int) (row : List Int) : Bool := decide ((row.length : Int) = L) && row.all (fun q => decide (0 ≤ q ∧ q < n))
/-- What is wrong with an automaton. -/
def valE (L s : Int) (fin : List Bool) (next : List (List Int)) : Int :=
  if L < 1 ∨ L > 6 then 1 else if fin.length > 512 then 3 else if fin.length = 0 ∨ next.length ≠ fin.length ∨ s < 0 ∨ s ≥ (fin.length : Int) then 4
  else if next.all (okRow fin.length L) then 0 else 4
theorem rdL_at (l : List (List Int)) (i : Nat) (h : i < l.length) : rd_L1 l (i : Int) = l[i] := by simp [rd_L1, List.getD, h]
theorem dval_l1 (n L s : Int) (fin : List Bool) (next rows : List (List Int)) (len i : Int) (row : List Int) (hn : row.length ≤ 1000) (r : Int) : ∀ (d j : Nat), row.length - j = d → j ≤ row.length →
    ((row.drop j).all (fun q => decide (0 ≤ q ∧ q < n)) = true → Ev (fun k => dfa_Validate.l0 k n rows len (wrap64 (i + 1)) L s fin next) r) →
    (¬ (row.drop j).all (fun q => decide (0 ≤ q ∧ q < n)) = true → r = 4) →
    Ev (fun k => dfa_Validate.l1 k n rows len i row (row.length : Int) (j : Int) L s fin next) r := by
  intro d
  induction d with
  | zero =>
    intro j hd hj h h'
    exact Ev.step (fun _ => rfl) (ev_neg (by omega) (h (by rw [List.drop_eq_nil_of_le (by omega)]; rfl)))
  | succ d ih =>
    intro j hd hj h h'
    have hlt : j < row.length := by omega
    rw [List.drop_eq_getElem_cons hlt, List.all_cons] at h h'
    refine Ev.step (fun _ => rfl) (ev_pos (by omega) (ev_pos (by omega) (ev_pos (by omega) ?_)))
    rw [rd_at row j hlt]
    by_cases h1 : row[j] < 0
    · exact ev_pos h1 (ev_eq (ev_some 4) (h' (by rw [decide_eq_false (by omega)]; simp)).symm)
    · refine ev_neg h1 ?_
      by_cases h2 : row[j] ≥ n
      · exact ev_pos h2 (ev_eq (ev_some 4) (h' (by rw [decide_eq_false (by omega)]; simp)).symm)
      · refine ev_neg h2 ?_
        rw [wrap_succ hlt (by omega)]
        rw [decide_eq_true (show 0 ≤ row[j] ∧ row[j] < n by omega), Bool.true_and] at h h'
        exact ih (j + 1) (by omega) (by omega) h h'
theorem dval_l0 (n L s : Int) (hL : 0 ≤ L ∧ L ≤ 6) (fin : List Bool) (next rows : List (List Int)) (hr : rows.length ≤ 1000) : ∀ (d i : Nat), rows.length - i = d → i ≤ rows.length →
    Ev (fun k => dfa_Validate.l0 k n rows (rows.length : Int) (i : Int) L s fin next) (if (rows.drop i).all (okRow n L) then 0 else 4) := by
  intro d
  induction d with
  | zero =>
    intro i hd hi
    exact Ev.step (fun _ => rfl) (ev_neg (by omega) (ev_eq (ev_some 0) (by rw [List.drop_eq_nil_of_le (by omega)]; rfl)))
  | succ d ih =>
    intro i hd hi
    have hlt : i < rows.length := by omega
    rw [List.drop_eq_getElem_cons hlt, List.all_cons]
    refine Ev.step (fun _ => rfl) (ev_pos (by omega) (ev_pos (by omega) (ev_pos (by omega) ?_)))
    rw [rdL_at rows i hlt]
    by_cases h1 : (rows[i].length : Int) = L
    · refine ev_pos h1 (dval_l1 n L s fin next rows _ i rows[i] (by omega) _ _ 0 rfl (by omega) (fun h => ?_) (fun h => ?_))
      · rw [List.drop_zero] at h
        rw [wrap_succ hlt (by omega), show okRow n L rows[i] = true from by unfold okRow; rw [h, decide_eq_true h1]; rfl, Bool.true_and]
        exact ih (i + 1) (by omega) (by omega)
      · rw [List.drop_zero] at h
        rw [show okRow n L rows[i] = false from by unfold okRow; rw [Bool.not_eq_true] at h; rw [h, Bool.and_false], Bool.false_and]
        rfl
    · refine ev_neg h1 (ev_eq (ev_some 4) ?_)
      rw [show okRow n L rows[i] = false from by unfold okRow; rw [decide_eq_false h1, Bool.false_and], Bool.false_and]
      rfl
theorem dval_ev (L s : Int) (fin : List Bool) (next : List (List Int)) : Ev (fun k => dfa_Validate.f k L s fin next) (valE L s fin next) := by
  have J : ∀ b : Bool, b = decide (L < 1 ∨ L > 6) → Ev (fun k => dfa_Validate.j0 k (fin.length : Int) b L s fin next) (valE L s fin next) := by
    intro b e
    unfold valE
    by_cases h1 : L < 1 ∨ L > 6
    · rw [decide_eq_true h1] at e
      rw [if_pos h1]
      exact Ev.step (fun _ => rfl) (ev_pos e (ev_some 1))
    · rw [decide_eq_false h1] at e
      rw [if_neg h1]
      refine Ev.step (fun _ => rfl) (ev_neg (by simp [e]) ?_)
      by_cases h2 : fin.length > 512
      · rw [if_pos h2]
        exact ev_pos (by omega) (ev_some 3)
      · rw [if_neg h2]
        refine ev_neg (by omega) ?_
        by_cases h3 : fin.length = 0
        · rw [if_pos (.inl h3)]
          exact ev_pos (by omega) (ev_some 4)
        · refine ev_neg (by omega) ?_
          by_cases h4 : next.length = fin.length
          · refine ev_pos (by omega) ?_
            by_cases h5 : s < 0
            · rw [if_pos (.inr (.inr (.inl h5)))]
              exact ev_pos h5 (ev_some 4)
            · refine ev_neg h5 ?_
              by_cases h6 : s ≥ (fin.length : Int)
              · rw [if_pos (.inr (.inr (.inr h6)))]
                exact ev_pos h6 (ev_some 4)
              · rw [if_neg (by omega)]
                refine ev_neg h6 ?_
                have := dval_l0 (fin.length : Int) L s (by omega) fin next next (by omega) _ 0 rfl (by omega)
                rwa [List.drop_zero] at this
          · rw [if_pos (.inr (.inl h4))]
            exact ev_neg (by omega) (ev_some 4)
  by_cases h : L < 1
  · exact ev_pos h (J true (by rw [decide_eq_true (.inl h)]))
  · exact ev_neg h (J _ (by simp only [h, false_or]))

theorem rval_l1 (n L s : Int) (fin : List Bool) (next rows : List (List Int)) (len i : Int) (row : List Int) (hn : row.length ≤ 1000) (r : Int) : ∀ (d j : Nat), row.length - j = d → j ≤ row.length →
    ((row.drop j).all (fun q => decide (0 ≤ q ∧ q < n)) = true → Ev (fun k => semigroupref07_Validate.l0 k n rows len (wrap64 (i + 1)) L s fin next) r) →
    (¬ (row.drop j).all (fun q => decide (0 ≤ q ∧ q < n)) = true → r = 4) →
    Ev (fun k => semigroupref07_Validate.l1 k n rows len i row (row.length : Int) (j : Int) L s fin next) r := by
  intro d
  induction d with
  | zero =>
    intro j hd hj h h'
    exact Ev.step (fun _ => rfl) (ev_neg (by omega) (h (by rw [List.drop_eq_nil_of_le (by omega)]; rfl)))
  | succ d ih =>
    intro j hd hj h h'
    have hlt : j < row.length := by omega
    rw [List.drop_eq_getElem_cons hlt, List.all_cons] at h h'
    refine Ev.step (fun _ => rfl) (ev_pos (by omega) (ev_pos (by omega) (ev_pos (by omega) ?_)))
    rw [rd_at row j hlt]
    by_cases h1 : row[j] < 0
    · exact ev_pos h1 (ev_eq (ev_some 4) (h' (by rw [decide_eq_false (by omega)]; simp)).symm)
    · refine ev_neg h1 ?_
      by_cases h2 : row[j] ≥ n
      · exact ev_pos h2 (ev_eq (ev_some 4) (h' (by rw [decide_eq_false (by omega)]; simp)).symm)
      · refine ev_neg h2 ?_
        rw [wrap_succ hlt (by omega)]
        rw [decide_eq_true (show 0 ≤ row[j] ∧ row[j] < n by omega), Bool.true_and] at h h'
        exact ih (j + 1) (by omega) (by omega) h h'
theorem rval_l0 (n L s : Int) (hL : 0 ≤ L ∧ L ≤ 6) (fin : List Bool) (next rows : List (List Int)) (hr : rows.length ≤ 1000) : ∀ (d i : Nat), rows.length - i = d → i ≤ rows.length →
    Ev (fun k => semigroupref07_Validate.l0 k n rows (rows.length : Int) (i : Int) L s fin next) (if (rows.drop i).all (okRow n L) then 0 else 4) := by
  intro d
  induction d with
  | zero =>
    intro i hd hi
    exact Ev.step (fun _ => rfl) (ev_neg (by omega) (ev_eq (ev_some 0) (by rw [List.drop_eq_nil_of_le (by omega)]; rfl)))
  | succ d ih =>
    intro i hd hi
    have hlt : i < rows.length := by omega
    rw [List.drop_eq_getElem_cons hlt, List.all_cons]
    refine Ev.step (fun _ => rfl) (ev_pos (by omega) (ev_pos (by omega) (ev_pos (by omega) ?_)))
    rw [rdL_at rows i hlt]
    by_cases h1 : (rows[i].length : Int) = L
    · refine ev_pos h1 (rval_l1 n L s fin next rows _ i rows[i] (by omega) _ _ 0 rfl (by omega) (fun h => ?_) (fun h => ?_))
      · rw [List.drop_zero] at h
        rw [wrap_succ hlt (by omega), show okRow n L rows[i] = true from by unfold okRow; rw [h, decide_eq_true h1]; rfl, Bool.true_and]
        exact ih (i + 1) (by omega) (by omega)
      · rw [List.drop_zero] at h
        rw [show okRow n L rows[i] = false from by unfold okRow; rw [Bool.not_eq_true] at h; rw [h, Bool.and_false], Bool.false_and]
        rfl
    · refine ev_neg h1 (ev_eq (ev_some 4) ?_)
      rw [show okRow n L rows[i] = false from by unfold okRow; rw [decide_eq_false h1, Bool.false_and], Bool.false_and]
      rfl
theorem rval_ev (L s : Int) (fin : List Bool) (next : List (List Int)) : Ev (fun k => semigroupref07_Validate.f k L s fin next) (valE L s fin next) := by
  by_cases h1 : L < 1 ∨ L > 6
  · have hm : semigroupref01_MayLetters.f L = some false := by
      unfold semigroupref01_MayLetters.f
      by_cases h : L ≥ 1
      · rw [if_pos h, decide_eq_false (by omega)]
      · rw [if_neg h]
    refine ev_bind0 hm (ev_neg (by simp) (ev_eq (ev_some 1) ?_))
    unfold valE
    rw [if_pos h1]
  · have hm : semigroupref01_MayLetters.f L = some true := by
      unfold semigroupref01_MayLetters.f
      rw [if_pos (by omega), decide_eq_true (by omega)]
    refine ev_bind0 hm (ev_pos rfl ?_)
    unfold valE
    rw [if_neg h1]
    by_cases h2 : fin.length > 512
    · rw [if_pos h2]
      exact ev_pos (by omega) (ev_some 3)
    · rw [if_neg h2]
      refine ev_neg (by omega) ?_
      have J : ∀ b : Bool, b = decide (fin.length = 0 ∨ next.length ≠ fin.length ∨ s < 0 ∨ s ≥ (fin.length : Int)) → Ev (fun k => semigroupref07_Validate.j0 k (fin.length : Int) b L s fin next) (if fin.length = 0 ∨ next.length ≠ fin.length ∨ s < 0 ∨ s ≥ (fin.length : Int) then 4 else if next.all (okRow fin.length L) then 0 else 4) := by
        intro b e
        by_cases h3 : fin.length = 0 ∨ next.length ≠ fin.length ∨ s < 0 ∨ s ≥ (fin.length : Int)
        · rw [decide_eq_true h3] at e
          rw [if_pos h3]
          exact Ev.step (fun _ => rfl) (ev_pos e (ev_some 4))
        · rw [decide_eq_false h3] at e
          rw [if_neg h3]
          refine Ev.step (fun _ => rfl) (ev_neg (by simp [e]) ?_)
          have := rval_l0 (fin.length : Int) L s (by omega) fin next next (by omega) _ 0 rfl (by omega)
          rwa [List.drop_zero] at this
      by_cases h3 : fin.length = 0
      · exact ev_pos (by omega) (J true (decide_eq_true (.inl h3)).symm)
      · refine ev_neg (by omega) ?_
        by_cases h4 : next.length = fin.length
        · refine ev_pos (by omega) ?_
          by_cases h5 : s < 0
          · exact ev_pos h5 (J true (decide_eq_true (.inr (.inr (.inl h5)))).symm)
          · refine ev_neg h5 (J _ ?_)
            by_cases h6 : s ≥ (fin.length : Int)
            · rw [decide_eq_true h6, decide_eq_true (.inr (.inr (.inr h6)))]
            · rw [decide_eq_false h6, decide_eq_false (by omega)]
        · exact ev_neg (by omega) (J true (decide_eq_true (.inr (.inl h4))).symm)

theorem valid_ev (L s : Int) (fin : List Bool) (next : List (List Int)) : Ev (fun k => semigrouplaw07_valid.f k L s fin next) (valE L s fin next == 0) :=
  ev_bind (rval_ev _ _ _ _) (ev_some _)

theorem valE_zero {L s : Int} {fin : List Bool} {next : List (List Int)} (h : valE L s fin next = 0) :
    1 ≤ L ∧ L ≤ 6 ∧ 0 < fin.length ∧ fin.length ≤ 512 ∧ next.length = fin.length ∧ 0 ≤ s ∧ s < (fin.length : Int) ∧ ∀ row ∈ next, (row.length : Int) = L ∧ ∀ q ∈ row, 0 ≤ q ∧ q < (fin.length : Int) := by
  unfold valE at h
  by_cases h1 : L < 1 ∨ L > 6
  · rw [if_pos h1] at h; cases h
  rw [if_neg h1] at h
  by_cases h2 : fin.length > 512
  · rw [if_pos h2] at h; cases h
  rw [if_neg h2] at h
  by_cases h3 : fin.length = 0 ∨ next.length ≠ fin.length ∨ s < 0 ∨ s ≥ (fin.length : Int)
  · rw [if_pos h3] at h; cases h
  rw [if_neg h3] at h
  by_cases h4 : next.all (okRow fin.length L) = true
  · refine ⟨by omega, by omega, by omega, by omega, by omega, by omega, by omega, fun row hr => ?_⟩
    have h5 := List.all_eq_true.1 h4 row hr
    simp only [okRow, Bool.and_eq_true, decide_eq_true_eq, List.all_eq_true] at h5
    exact h5
  · rw [if_neg h4] at h; cases h
theorem valE_no {L s : Int} {fin : List Bool} {next : List (List Int)} : valE L s fin next = 0 ∨ valE L s fin next = 1 ∨ valE L s fin next = 3 ∨ valE L s fin next = 4 := by
  unfold valE
  repeat' split
  all_goals simp

/-- One round of counting: from each state its ways go along its row. -/
def cset (k : Int) (nx : List Int) (q : Int) : List Int := nx.set q.toNat (Int.tmod (wrap64 (rd nx q + k)) 2305843009213693951)
def crow (k : Int) (nx row : List Int) : List Int := row.foldl (cset k) nx
def cstep : List (List Int) → List Int → List Int → List Int
  | row :: rows, w :: ws, nx => cstep rows ws (crow w nx row)
  | _, _, nx => nx
def cwalk (rows : List (List Int)) : Nat → List Int → List Int
  | 0, ws => ws
  | n + 1, ws => cwalk rows n (cstep rows ws (List.replicate ws.length 0))
def csum : List Bool → List Int → Int → Int
  | b :: bs, w :: ws, acc => csum bs ws (if b = true then Int.tmod (wrap64 (acc + w)) 2305843009213693951 else acc)
  | _, _, acc => acc
theorem crow_length (k : Int) : ∀ (row nx : List Int), (crow k nx row).length = nx.length
  | [], _ => rfl
  | q :: row, nx => by
    show (crow k (cset k nx q) row).length = _
    rw [crow_length k row]
    simp [cset]
theorem cstep_length : ∀ (rows : List (List Int)) (ws nx : List Int), (cstep rows ws nx).length = nx.length
  | [], _, _ => rfl
  | _ :: _, [], _ => rfl
  | row :: rows, w :: ws, nx => by
    show (cstep rows ws (crow w nx row)).length = _
    rw [cstep_length rows ws, crow_length]
theorem cwalk_length (rows : List (List Int)) : ∀ (n : Nat) (ws : List Int), (cwalk rows n ws).length = ws.length
  | 0, _ => rfl
  | n + 1, ws => by
    show (cwalk rows n _).length = _
    rw [cwalk_length rows n, cstep_length, List.length_replicate]
theorem dcount_l2 (x1 x8 : Int) (x40 : List Int) (x41 x42 L s : Int) (fin : List Bool) (next : List (List Int)) (row : List Int) (hl : row.length ≤ 1000) (n : Nat) (hq : ∀ q ∈ row, 0 ≤ q ∧ q < (n : Int)) (r : Int) : ∀ (d j : Nat) (nx : List Int), row.length - j = d → j ≤ row.length → nx.length = n →
    Ev (fun k => dfa_Count.l1 k x1 (crow x8 nx (row.drop j)) x40 x41 (wrap64 (x42 + 1)) L s fin next) r →
    Ev (fun k => dfa_Count.l2 k x1 nx x8 x40 x41 x42 row (row.length : Int) (j : Int) L s fin next) r := by
  intro d
  induction d with
  | zero =>
    intro j nx hd hj hn h
    rw [List.drop_eq_nil_of_le (by omega)] at h
    exact Ev.step (fun _ => rfl) (ev_neg (by omega) h)
  | succ d ih =>
    intro j nx hd hj hn h
    have hlt : j < row.length := by omega
    have hb := hq row[j] (List.getElem_mem hlt)
    rw [List.drop_eq_getElem_cons hlt] at h
    refine Ev.step (fun _ => rfl) (ev_pos (by omega) (ev_pos (by omega) (ev_pos (by omega) ?_)))
    rw [rd_at row j hlt, wrap_succ hlt (by omega)]
    exact ev_pos hb.1 (ev_pos (by omega) (ih (j + 1) (cset x8 nx row[j]) (by omega) (by omega) (by simp [cset, hn]) h))
theorem dcount_l1 (x1 L s : Int) (fin : List Bool) (next : List (List Int)) (hr : next.length ≤ 1000) (hL : ∀ row ∈ next, row.length ≤ 1000 ∧ ∀ q ∈ row, 0 ≤ q ∧ q < (next.length : Int)) (ws : List Int) (hw : ws.length = next.length) (r : Int) : ∀ (d i : Nat) (nx : List Int), next.length - i = d → i ≤ next.length → nx.length = next.length →
    Ev (fun k => dfa_Count.l0 k (wrap64 (x1 - 1)) (cstep (next.drop i) (ws.drop i) nx) L s fin next) r →
    Ev (fun k => dfa_Count.l1 k x1 nx ws (ws.length : Int) (i : Int) L s fin next) r := by
  intro d
  induction d with
  | zero =>
    intro i nx hd hi hn h
    rw [List.drop_eq_nil_of_le (by omega)] at h
    exact Ev.step (fun _ => rfl) (ev_neg (by omega) h)
  | succ d ih =>
    intro i nx hd hi hn h
    have hlt : i < next.length := by omega
    have hb := hL next[i] (List.getElem_mem hlt)
    rw [List.drop_eq_getElem_cons hlt, List.drop_eq_getElem_cons (show i < ws.length by omega)] at h
    refine Ev.step (fun _ => rfl) (ev_pos (by omega) (ev_pos (by omega) (ev_pos (by omega) (ev_pos (by omega) ?_))))
    rw [rdL_at next i hlt, rd_at ws i (by omega)]
    refine dcount_l2 x1 ws[i] ws _ i L s fin next next[i] hb.1 next.length hb.2 r _ 0 nx rfl (by omega) hn ?_
    rw [List.drop_zero, wrap_succ hlt (by omega)]
    exact ih (i + 1) _ (by omega) (by omega) (by rw [crow_length]; exact hn) h
theorem dcount_l3 (L s : Int) (fin : List Bool) (next : List (List Int)) (ws : List Int) (hw : ws.length = fin.length) (hf : fin.length ≤ 1000) : ∀ (d i : Nat) (acc : Int), fin.length - i = d → i ≤ fin.length →
    Ev (fun k => dfa_Count.l3 k acc ws (ws.length : Int) (i : Int) L s fin next) (csum (fin.drop i) (ws.drop i) acc) := by
  intro d
  induction d with
  | zero =>
    intro i acc hd hi
    rw [List.drop_eq_nil_of_le (by omega)]
    exact Ev.step (fun _ => rfl) (ev_neg (by omega) (ev_some acc))
  | succ d ih =>
    intro i acc hd hi
    have hlt : i < fin.length := by omega
    rw [List.drop_eq_getElem_cons hlt, List.drop_eq_getElem_cons (show i < ws.length by omega)]
    refine Ev.step (fun _ => rfl) (ev_pos (by omega) (ev_pos (by omega) (ev_pos (by omega) (ev_pos (by omega) ?_))))
    rw [rd_at ws i (by omega), wrap_succ hlt (by omega), show rdOf false fin (i : Int) = fin[i] from by simp [rdOf, List.getD, hlt]]
    by_cases hb : fin[i] = true
    · refine ev_pos hb (ev_eq (ih (i + 1) _ (by omega) (by omega)) ?_)
      show _ = csum _ _ (if fin[i] = true then _ else acc)
      rw [if_pos hb]
    · refine ev_neg hb (ev_eq (ih (i + 1) _ (by omega) (by omega)) ?_)
      show _ = csum _ _ (if fin[i] = true then _ else acc)
      rw [if_neg hb]
/-- How many words of length n are accepted. -/
def cntE (s : Int) (fin : List Bool) (next : List (List Int)) (n : Nat) : Int := csum fin (cwalk next n ((List.replicate fin.length 0).set s.toNat 1)) 0
theorem dcount_l0 (L s : Int) (fin : List Bool) (next : List (List Int)) (hf : fin.length ≤ 1000) (hn : next.length = fin.length) (hL : ∀ row ∈ next, row.length ≤ 1000 ∧ ∀ q ∈ row, 0 ≤ q ∧ q < (next.length : Int)) : ∀ (n : Nat) (ws : List Int), ws.length = fin.length → n ≤ 10000 →
    Ev (fun k => dfa_Count.l0 k (n : Int) ws L s fin next) (csum fin (cwalk next n ws) 0) := by
  intro n
  induction n with
  | zero =>
    intro ws hw _
    obtain ⟨z, hz⟩ : ∃ z : Int, z = ((0 : Nat) : Int) := ⟨_, rfl⟩
    rw [← hz]
    refine Ev.step (fun _ => rfl) (ev_neg (by omega) ?_)
    have := dcount_l3 L s fin next ws hw hf _ 0 0 rfl (by omega)
    rwa [List.drop_zero, List.drop_zero] at this
  | succ n ih =>
    intro ws hw hn'
    refine Ev.step (fun _ => rfl) (ev_pos (by omega) (ev_pos (by omega) (ev_pos (by omega) ?_)))
    refine dcount_l1 _ L s fin next (by omega) hL ws (by omega) _ _ 0 _ rfl (by omega) (by simp; omega) ?_
    rw [List.drop_zero, List.drop_zero, wrap_in (by omega) (by omega), show (((n + 1 : Nat) : Int) - 1) = (n : Int) by omega, show ((ws.length : Int)).toNat = ws.length from rfl]
    exact ih _ (by rw [cstep_length, List.length_replicate]; exact hw) (by omega)
theorem dcount_ev (L s : Int) (fin : List Bool) (next : List (List Int)) (n : Int) : Ev (fun k => dfa_Count.f k L s fin next n) (if valE L s fin next = 0 ∧ 0 ≤ n ∧ n ≤ 10000 then cntE s fin next n.toNat else 0) := by
  have J : ∀ b : Bool, b = true → Ev (fun k => dfa_Count.j0 k n b L s fin next) 0 := fun b e => Ev.step (fun _ => rfl) (ev_pos e (ev_some 0))
  refine ev_bind (dval_ev _ _ _ _) ?_
  by_cases hv : valE L s fin next = 0
  · refine ev_pos hv ?_
    by_cases h1 : n < 0
    · rw [if_neg (by omega)]
      exact ev_pos h1 (J true rfl)
    · refine ev_neg h1 ?_
      by_cases h2 : n > 10000
      · rw [if_neg (by omega)]
        exact J _ (decide_eq_true h2)
      · rw [if_pos ⟨hv, by omega, by omega⟩]
        obtain ⟨v1, v2, v3, v4, v5, v6, v7, v8⟩ := valE_zero hv
        obtain ⟨m, rfl⟩ : ∃ m : Nat, n = (m : Int) := ⟨n.toNat, by omega⟩
        have K : ∀ b : Bool, b = false → Ev (fun k => dfa_Count.j0 k (m : Int) b L s fin next) (cntE s fin next m) := by
          intro b e
          refine Ev.step (fun _ => rfl) (ev_neg (by simp [e]) (ev_pos (by omega) (ev_pos (by omega) (ev_bind0 rfl (ev_pos v6 (ev_pos (by simp; omega) ?_))))))
          exact dcount_l0 L s fin next (by omega) v5 (fun row hr => ⟨by have := (v8 row hr).1; omega, by rw [v5]; exact (v8 row hr).2⟩) m _ (by simp) (by omega)
        exact K _ (decide_eq_false h2)
  · rw [if_neg (fun h => hv h.1)]
    exact ev_neg hv (J true rfl)

theorem rcount_l2 (x1 x6 x37 L s : Int) (ws : List Int) (fin : List Bool) (next : List (List Int)) (i : Nat) (hi : i < ws.length) (row : List Int) (hl : row.length ≤ 1000) (n : Nat) (hq : ∀ q ∈ row, 0 ≤ q ∧ q < (n : Int)) (r : Int) : ∀ (d j : Nat) (nx : List Int), row.length - j = d → j ≤ row.length → nx.length = n →
    Ev (fun k => semigroupref07_Count.l1 k x1 ws x6 (crow ws[i] nx (row.drop j)) x37 (wrap64 ((i : Int) + 1)) L s fin next) r →
    Ev (fun k => semigroupref07_Count.l2 k x1 ws x6 nx (i : Int) x37 (i : Int) row (row.length : Int) (j : Int) L s fin next) r := by
  intro d
  induction d with
  | zero =>
    intro j nx hd hj hn h
    rw [List.drop_eq_nil_of_le (by omega)] at h
    exact Ev.step (fun _ => rfl) (ev_neg (by omega) h)
  | succ d ih =>
    intro j nx hd hj hn h
    have hlt : j < row.length := by omega
    have hb := hq row[j] (List.getElem_mem hlt)
    rw [List.drop_eq_getElem_cons hlt] at h
    refine Ev.step (fun _ => rfl) (ev_pos (by omega) (ev_pos (by omega) (ev_pos (by omega) ?_)))
    rw [rd_at row j hlt, rd_at ws i hi, wrap_succ hlt (by omega)]
    exact ev_pos hb.1 (ev_pos (by omega) (ev_pos (by omega) (ev_pos (by omega) (ih (j + 1) (cset ws[i] nx row[j]) (by omega) (by omega) (by simp [cset, hn]) h))))
theorem rcount_l1 (x1 x6 L s : Int) (fin : List Bool) (next : List (List Int)) (hr : next.length ≤ 1000) (hL : ∀ row ∈ next, row.length ≤ 1000 ∧ ∀ q ∈ row, 0 ≤ q ∧ q < (next.length : Int)) (ws : List Int) (hw : ws.length = next.length) (r : Int) : ∀ (d i : Nat) (nx : List Int), next.length - i = d → i ≤ next.length → nx.length = next.length →
    Ev (fun k => semigroupref07_Count.l0 k x1 (cstep (next.drop i) (ws.drop i) nx) (wrap64 (x6 + 1)) L s fin next) r →
    Ev (fun k => semigroupref07_Count.l1 k x1 ws x6 nx (ws.length : Int) (i : Int) L s fin next) r := by
  intro d
  induction d with
  | zero =>
    intro i nx hd hi hn h
    rw [List.drop_eq_nil_of_le (by omega)] at h
    exact Ev.step (fun _ => rfl) (ev_neg (by omega) h)
  | succ d ih =>
    intro i nx hd hi hn h
    have hlt : i < next.length := by omega
    have hb := hL next[i] (List.getElem_mem hlt)
    rw [List.drop_eq_getElem_cons hlt, List.drop_eq_getElem_cons (show i < ws.length by omega)] at h
    refine Ev.step (fun _ => rfl) (ev_pos (by omega) (ev_pos (by omega) (ev_pos (by omega) ?_)))
    rw [rdL_at next i hlt]
    refine rcount_l2 x1 x6 _ L s ws fin next i (by omega) next[i] hb.1 next.length hb.2 r _ 0 nx rfl (by omega) hn ?_
    rw [List.drop_zero, wrap_succ hlt (by omega)]
    exact ih (i + 1) _ (by omega) (by omega) (by rw [crow_length]; exact hn) h
theorem rcount_l3 (L s : Int) (fin : List Bool) (next : List (List Int)) (ws : List Int) (hw : ws.length = fin.length) (hf : fin.length ≤ 1000) : ∀ (d i : Nat) (acc : Int), fin.length - i = d → i ≤ fin.length →
    Ev (fun k => semigroupref07_Count.l3 k ws acc (ws.length : Int) (i : Int) L s fin next) (csum (fin.drop i) (ws.drop i) acc) := by
  intro d
  induction d with
  | zero =>
    intro i acc hd hi
    rw [List.drop_eq_nil_of_le (by omega)]
    exact Ev.step (fun _ => rfl) (ev_neg (by omega) (ev_some acc))
  | succ d ih =>
    intro i acc hd hi
    have hlt : i < fin.length := by omega
    rw [List.drop_eq_getElem_cons hlt, List.drop_eq_getElem_cons (show i < ws.length by omega)]
    refine Ev.step (fun _ => rfl) (ev_pos (by omega) (ev_pos (by omega) (ev_pos (by omega) ?_)))
    rw [rd_at ws i (by omega), wrap_succ hlt (by omega), show rdOf false fin (i : Int) = fin[i] from by simp [rdOf, List.getD, hlt]]
    by_cases hb : fin[i] = true
    · refine ev_pos hb (ev_pos (by omega) (ev_eq (ih (i + 1) _ (by omega) (by omega)) ?_))
      show _ = csum _ _ (if fin[i] = true then _ else acc)
      rw [if_pos hb]
    · refine ev_neg hb (ev_eq (ih (i + 1) _ (by omega) (by omega)) ?_)
      show _ = csum _ _ (if fin[i] = true then _ else acc)
      rw [if_neg hb]
theorem rcount_l0 (L s : Int) (fin : List Bool) (next : List (List Int)) (hf : fin.length ≤ 1000) (hn : next.length = fin.length) (hL : ∀ row ∈ next, row.length ≤ 1000 ∧ ∀ q ∈ row, 0 ≤ q ∧ q < (next.length : Int)) (m : Nat) (hm : m ≤ 10000) : ∀ (n i : Nat) (ws : List Int), ws.length = fin.length → m - i = n → i ≤ m →
    Ev (fun k => semigroupref07_Count.l0 k (m : Int) ws (i : Int) L s fin next) (csum fin (cwalk next n ws) 0) := by
  intro n
  induction n with
  | zero =>
    intro i ws hw hd hi
    refine Ev.step (fun _ => rfl) (ev_neg (by omega) ?_)
    have := rcount_l3 L s fin next ws hw hf _ 0 0 rfl (by omega)
    rwa [List.drop_zero, List.drop_zero] at this
  | succ n ih =>
    intro i ws hw hd hi
    refine Ev.step (fun _ => rfl) (ev_pos (by omega) (ev_pos (by omega) (ev_pos (by omega) ?_)))
    refine rcount_l1 _ _ L s fin next (by omega) hL ws (by omega) _ _ 0 _ rfl (by omega) (by simp; omega) ?_
    rw [List.drop_zero, List.drop_zero, wrap_succ (i := i) (n := 10000) (by omega) (by omega), show ((fin.length : Int)).toNat = ws.length from by omega]
    exact ih (i + 1) _ (by rw [cstep_length, List.length_replicate]; exact hw) (by omega) (by omega)
theorem rcount_ev (L s : Int) (fin : List Bool) (next : List (List Int)) (hv : valE L s fin next = 0) (m : Nat) (hm : m ≤ 10000) : Ev (fun k => semigroupref07_Count.f k L s fin next (m : Int)) (cntE s fin next m) := by
  obtain ⟨v1, v2, v3, v4, v5, v6, v7, v8⟩ := valE_zero hv
  have K : ∀ b : Bool, b = false → Ev (fun k => semigroupref07_Count.j0 k (m : Int) b L s fin next) (cntE s fin next m) := by
    intro b e
    refine Ev.step (fun _ => rfl) (ev_neg (by simp [e]) (ev_pos (by omega) (ev_pos (by omega) (ev_bind0 rfl (ev_pos v6 (ev_pos (by simp; omega) ?_))))))
    exact rcount_l0 L s fin next (by omega) v5 (fun row hr => ⟨by have := (v8 row hr).1; omega, by rw [v5]; exact (v8 row hr).2⟩) m hm m 0 _ (by simp) (by omega) (by omega)
  exact ev_neg (by omega) (K _ (decide_eq_false (by omega)))

theorem DfaCounts : semigrouplaw07_DfaCounts.Pure := by
  intro x n hx hn
  have A : Ev (fun k => (semigrouplaw07_awake.f k).bind fun t => some t) true := ev_bind awake_ev (ev_some true)
  refine Ev.rounds (ev_bind (dcount_ev _ _ _ _ n) (ev_bind (valid_ev _ _ _ _) ?_))
  have J0 : ∀ (c : Int) (b : Bool), c = 0 → b = true → Ev (fun k => semigrouplaw07_DfaCounts.j0 k n c b x.f0 x.f1 x.f2 x.f3) true := fun c b e1 e => Ev.step (fun _ => rfl) (ev_pos e (ev_pos e1 A))
  by_cases hv : valE x.f0 x.f1 x.f2 x.f3 = 0
  · refine ev_pos (by simp [hv]) ?_
    by_cases h1 : n < 0
    · exact ev_pos h1 (J0 _ _ (if_neg (by omega)) rfl)
    · refine ev_neg h1 ?_
      by_cases h2 : n > 10000
      · exact J0 _ _ (if_neg (by omega)) (decide_eq_true h2)
      · obtain ⟨m, rfl⟩ : ∃ m : Nat, n = (m : Int) := ⟨n.toNat, by omega⟩
        rw [if_pos ⟨hv, by omega, by omega⟩]
        have J1 : ∀ b : Bool, Ev (fun k => semigrouplaw07_DfaCounts.j1 k (m : Int) (cntE x.f1 x.f2 x.f3 (m : Int).toNat) b x.f0 x.f1 x.f2 x.f3) true := by
          intro b
          refine Ev.step (fun _ => rfl) ?_
          by_cases hb : b = true
          · exact ev_pos hb A
          · exact ev_neg hb (ev_bind (rcount_ev _ _ _ _ hv m (by omega)) (ev_pos rfl A))
        have J2 : ∀ b : Bool, b = false → Ev (fun k => semigrouplaw07_DfaCounts.j0 k (m : Int) (cntE x.f1 x.f2 x.f3 (m : Int).toNat) b x.f0 x.f1 x.f2 x.f3) true := by
          intro b e
          refine Ev.step (fun _ => rfl) (ev_neg (by simp [e]) ?_)
          by_cases h3 : (x.f2.length : Int) > 20
          · exact ev_pos h3 (J1 true)
          · exact ev_neg h3 (J1 _)
        exact J2 _ (decide_eq_false h2)
  · exact ev_neg (by simp [hv]) (J0 _ _ (if_neg (fun h => hv h.1)) rfl)

end Go.Proofs.Ytpjbmgoagehjkaa.Pure
