/- The least words lead to the states of the reachable part, in ascending order, and no word that is given leads to one of them while being less. -/
import Derived.Test.YtpjbmgoagehjkaaZDfaReachesQ
namespace Go.Proofs.Ytpjbmgoagehjkaa.Pure
open Go.RowKit Go.Proofs.Ytpjbmgoagehjkaa.PDfaReaches Go.Proofs.YtpjbmgoagehjkaaW.PrintWords Go.Proofs.YtpjbmgoagehjkaaW.PrintLast Go.Proofs.YtpjbmgoagehjkaaH
set_option linter.unusedVariables false
set_option linter.unusedSimpArgs false

theorem ev_mono {α : Type} {f : Nat → Option α} {r : α} (K : Nat) (hm : ∀ k, LeO (f k) (f (k + 1))) (h : f K = some r) : Ev f r := by
  refine ⟨K, fun n hn => ?_⟩
  induction n with
  | zero => rw [show K = 0 from by omega] at h; exact h
  | succ n ih =>
    by_cases e : K = n + 1
    · rw [← e]; exact h
    · exact hm n _ (ih (by omega))

theorem words_odd : Ev (fun k => dfa_Words.f k 2 0 [false, true] [[1, 0], [0, 1]] 3) [⟨#[97]⟩, ⟨#[97, 98]⟩, ⟨#[98, 97]⟩] := by
  refine ev_mono 40 (fun k => dfa_Words.mono _ _ _ _ _ k) ?_
  kernel_rfl
theorem awake_ev : Ev (fun k => semigrouplaw07_awake.f k) true := by
  refine ev_bind0 rfl (ev_bind words_odd (ev_bind ?_ (ev_some true)))
  refine ev_mono 10 (fun k => semigroupref01_Same.mono _ _ k) ?_
  kernel_rfl

/-- A row of a valid automaton with n states and L letters. -/
def okRow (n L : Int) (row : List Int) : Bool := decide ((row.length : Int) = L) && row.all (fun q => decide (0 ≤ q ∧ q < n))
/-- What is wrong with an automaton. -/
def valE (L s : Int) (fin : List Bool) (next : List (List Int)) : Int :=
  if L < 1 ∨ L > 6 then 1 else if fin.length > 512 then 3 else if fin.length = 0 ∨ next.length ≠ fin.length ∨ s < 0 ∨ s ≥ (fin.length : Int) then 4
  else if next.all (okRow fin.length L) then 0 else 4
theorem rdL_at (l : List (List Int)) (i : Nat) (h : i < l.length) : rd_L1 l (i : Int) = l[i] := by simp [rd_L1, List.getD, h]
theorem dval_l1 (n L s : Int) (fin : List Bool) (next rows : List (List Int)) (len i : Int) (row : List Int) (hn : row.length ≤ 1000) (r : Int) : ∀ (d j : Nat), row.length - j = d → j ≤ row.length →
    ((row.drop j).all (fun q => decide (0 ≤ q ∧ q < n)) = true → Ev (fun k => dfa_Validate.l0 k n rows len (wrap64 (i + 1)) L s fin next) r) →
    (¬ (row.drop j).all (fun q => decide (0 ≤ q ∧ q < n)) = true → r = 4) →
    Ev (fun k => dfa_Validate.l1 k n rows len i row (row.length : Int) (j : Int) L s fin next) r := by
  intro d
  induction d with
  | zero =>
    intro j hd hj h h'
    exact Ev.step (fun _ => rfl) (ev_neg (by omega) (h (by rw [List.drop_eq_nil_of_le (by omega)]; rfl)))
  | succ d ih =>
    intro j hd hj h h'
    have hlt : j < row.length := by omega
    rw [List.drop_eq_getElem_cons hlt, List.all_cons] at h h'
    refine Ev.step (fun _ => rfl) (ev_pos (by omega) (ev_pos (by omega) (ev_pos (by omega) ?_)))
    rw [rd_at row j hlt]
    by_cases h1 : row[j] < 0
    · exact ev_pos h1 (ev_eq (ev_some 4) (h' (by rw [decide_eq_false (by omega)]; simp)).symm)
    · refine ev_neg h1 ?_
      by_cases h2 : row[j] ≥ n
      · exact ev_pos h2 (ev_eq (ev_some 4) (h' (by rw [decide_eq_false (by omega)]; simp)).symm)
      · refine ev_neg h2 ?_
        rw [wrap_succ hlt (by omega)]
        rw [decide_eq_true (show 0 ≤ row[j] ∧ row[j] < n by omega), Bool.true_and] at h h'
        exact ih (j + 1) (by omega) (by omega) h h'
theorem dval_l0 (n L s : Int) (hL : 0 ≤ L ∧ L ≤ 6) (fin : List Bool) (next rows : List (List Int)) (hr : rows.length ≤ 1000) : ∀ (d i : Nat), rows.length - i = d → i ≤ rows.length →
    Ev (fun k => dfa_Validate.l0 k n rows (rows.length : Int) (i : Int) L s fin next) (if (rows.drop i).all (okRow n L) then 0 else 4) := by
  intro d
  induction d with
  | zero =>
    intro i hd hi
    exact Ev.step (fun _ => rfl) (ev_neg (by omega) (ev_eq (ev_some 0) (by rw [List.drop_eq_nil_of_le (by omega)]; rfl)))
  | succ d ih =>
    intro i hd hi
    have hlt : i < rows.length := by omega
    rw [List.drop_eq_getElem_cons hlt, List.all_cons]
    refine Ev.step (fun _ => rfl) (ev_pos (by omega) (ev_pos (by omega) (ev_pos (by omega) ?_)))
    rw [rdL_at rows i hlt]
    by_cases h1 : (rows[i].length : Int) = L
    · refine ev_pos h1 (dval_l1 n L s fin next rows _ i rows[i] (by omega) _ _ 0 rfl (by omega) (fun h => ?_) (fun h => ?_))
      · rw [List.drop_zero] at h
        rw [wrap_succ hlt (by omega), show okRow n L rows[i] = true from by unfold okRow; rw [h, decide_eq_true h1]; rfl, Bool.true_and]
        exact ih (i + 1) (by omega) (by omega)
      · rw [List.drop_zero] at h
        rw [show okRow n L rows[i] = false from by unfold okRow; rw [Bool.not_eq_true] at h; rw [h, Bool.and_false], Bool.false_and]
        rfl
    · refine ev_neg h1 (ev_eq (ev_some 4) ?_)
      rw [show okRow n L rows[i] = false from by unfold okRow; rw [decide_eq_false h1, Bool.false_and], Bool.false_and]
      rfl
theorem dval_ev (L s : Int) (fin : List Bool) (next : List (List Int)) : Ev (fun k => dfa_Validate.f k L s fin next) (valE L s fin next) := by
  have J : ∀ b : Bool, b = decide (L < 1 ∨ L > 6) → Ev (fun k => dfa_Validate.j0 k (fin.length : Int) b L s fin next) (valE L s fin next) := by
    intro b e
    unfold valE
    by_cases h1 : L < 1 ∨ L > 6
    · rw [decide_eq_true h1] at e
      rw [if_pos h1]
      exact Ev.step (fun _ => rfl) (ev_pos e (ev_some 1))
    · rw [decide_eq_false h1] at e
      rw [if_neg h1]
      refine Ev.step (fun _ => rfl) (ev_neg (by simp [e]) ?_)
      by_cases h2 : fin.length > 512
      · rw [if_pos h2]
        exact ev_pos (by omega) (ev_some 3)
      · rw [if_neg h2]
        refine ev_neg (by omega) ?_
        by_cases h3 : fin.length = 0
        · rw [if_pos (.inl h3)]
          exact ev_pos (by omega) (ev_some 4)
        · refine ev_neg (by omega) ?_
          by_cases h4 : next.length = fin.length
          · refine ev_pos (by omega) ?_
            by_cases h5 : s < 0
            · rw [if_pos (.inr (.inr (.inl h5)))]
              exact ev_pos h5 (ev_some 4)
            · refine ev_neg h5 ?_
              by_cases h6 : s ≥ (fin.length : Int)
              · rw [if_pos (.inr (.inr (.inr h6)))]
                exact ev_pos h6 (ev_some 4)
              · rw [if_neg (by omega)]
                refine ev_neg h6 ?_
                have := dval_l0 (fin.length : Int) L s (by omega) fin next next (by omega) _ 0 rfl (by omega)
                rwa [List.drop_zero] at this
          · rw [if_pos (.inr (.inl h4))]
            exact ev_neg (by omega) (ev_some 4)
  by_cases h : L < 1
  · exact ev_pos h (J true (by rw [decide_eq_true (.inl h)]))
  · exact ev_neg h (J _ (by simp only [h, false_or]))

theorem rval_l1 (n L s : Int) (fin : List Bool) (next rows : List (List Int)) (len i : Int) (row : List Int) (hn : row.length ≤ 1000) (r : Int) : ∀ (d j : Nat), row.length - j = d → j ≤ row.length →
    ((row.drop j).all (fun q => decide (0 ≤ q ∧ q < n)) = true → Ev (fun k => semigroupref07_Validate.l0 k n rows len (wrap64 (i + 1)) L s fin next) r) →
    (¬ (row.drop j).all (fun q => decide (0 ≤ q ∧ q < n)) = true → r = 4) →
    Ev (fun k => semigroupref07_Validate.l1 k n rows len i row (row.length : Int) (j : Int) L s fin next) r := by
  intro d
  induction d with
  | zero =>
    intro j hd hj h h'
    exact Ev.step (fun _ => rfl) (ev_neg (by omega) (h (by rw [List.drop_eq_nil_of_le (by omega)]; rfl)))
  | succ d ih =>
    intro j hd hj h h'
    have hlt : j < row.length := by omega
    rw [List.drop_eq_getElem_cons hlt, List.all_cons] at h h'
    refine Ev.step (fun _ => rfl) (ev_pos (by omega) (ev_pos (by omega) (ev_pos (by omega) ?_)))
    rw [rd_at row j hlt]
    by_cases h1 : row[j] < 0
    · exact ev_pos h1 (ev_eq (ev_some 4) (h' (by rw [decide_eq_false (by omega)]; simp)).symm)
    · refine ev_neg h1 ?_
      by_cases h2 : row[j] ≥ n
      · exact ev_pos h2 (ev_eq (ev_some 4) (h' (by rw [decide_eq_false (by omega)]; simp)).symm)
      · refine ev_neg h2 ?_
        rw [wrap_succ hlt (by omega)]
        rw [decide_eq_true (show 0 ≤ row[j] ∧ row[j] < n by omega), Bool.true_and] at h h'
        exact ih (j + 1) (by omega) (by omega) h h'
theorem rval_l0 (n L s : Int) (hL : 0 ≤ L ∧ L ≤ 6) (fin : List Bool) (next rows : List (List Int)) (hr : rows.length ≤ 1000) : ∀ (d i : Nat), rows.length - i = d → i ≤ rows.length →
    Ev (fun k => semigroupref07_Validate.l0 k n rows (rows.length : Int) (i : Int) L s fin next) (if (rows.drop i).all (okRow n L) then 0 else 4) := by
  intro d
  induction d with
  | zero =>
    intro i hd hi
    exact Ev.step (fun _ => rfl) (ev_neg (by omega) (ev_eq (ev_some 0) (by rw [List.drop_eq_nil_of_le (by omega)]; rfl)))
  | succ d ih =>
    intro i hd hi
    have hlt : i < rows.length := by omega
    rw [List.drop_eq_getElem_cons hlt, List.all_cons]
    refine Ev.step (fun _ => rfl) (ev_pos (by omega) (ev_pos (by omega) (ev_pos (by omega) ?_)))
    rw [rdL_at rows i hlt]
    by_cases h1 : (rows[i].length : Int) = L
    · refine ev_pos h1 (rval_l1 n L s fin next rows _ i rows[i] (by omega) _ _ 0 rfl (by omega) (fun h => ?_) (fun h => ?_))
      · rw [List.drop_zero] at h
        rw [wrap_succ hlt (by omega), show okRow n L rows[i] = true from by unfold okRow; rw [h, decide_eq_true h1]; rfl, Bool.true_and]
        exact ih (i + 1) (by omega) (by omega)
      · rw [List.drop_zero] at h
        rw [show okRow n L rows[i] = false from by unfold okRow; rw [Bool.not_eq_true] at h; rw [h, Bool.and_false], Bool.false_and]
        rfl
    · refine ev_neg h1 (ev_eq (ev_some 4) ?_)
      rw [show okRow n L rows[i] = false from by unfold okRow; rw [decide_eq_false h1, Bool.false_and], Bool.false_and]
      rfl
theorem rval_ev (L s : Int) (fin : List Bool) (next : List (List Int)) : Ev (fun k => semigroupref07_Validate.f k L s fin next) (valE L s fin next) := by
  by_cases h1 : L < 1 ∨ L > 6
  · have hm : semigroupref01_MayLetters.f L = some false := by
      unfold semigroupref01_MayLetters.f
      by_cases h : L ≥ 1
      · rw [if_pos h, decide_eq_false (by omega)]
      · rw [if_neg h]
    refine ev_bind0 hm (ev_neg (by simp) (ev_eq (ev_some 1) ?_))
    unfold valE
    rw [if_pos h1]
  · have hm : semigroupref01_MayLetters.f L = some true := by
      unfold semigroupref01_MayLetters.f
      rw [if_pos (by omega), decide_eq_true (by omega)]
    refine ev_bind0 hm (ev_pos rfl ?_)
    unfold valE
    rw [if_neg h1]
    by_cases h2 : fin.length > 512
    · rw [if_pos h2]
      exact ev_pos (by omega) (ev_some 3)
    · rw [if_neg h2]
      refine ev_neg (by omega) ?_
      have J : ∀ b : Bool, b = decide (fin.length = 0 ∨ next.length ≠ fin.length ∨ s < 0 ∨ s ≥ (fin.length : Int)) → Ev (fun k => semigroupref07_Validate.j0 k (fin.length : Int) b L s fin next) (if fin.length = 0 ∨ next.length ≠ fin.length ∨ s < 0 ∨ s ≥ (fin.length : Int) then 4 else if next.all (okRow fin.length L) then 0 else 4) := by
        intro b e
        by_cases h3 : fin.length = 0 ∨ next.length ≠ fin.length ∨ s < 0 ∨ s ≥ (fin.length : Int)
        · rw [decide_eq_true h3] at e
          rw [if_pos h3]
          exact Ev.step (fun _ => rfl) (ev_pos e (ev_some 4))
        · rw [decide_eq_false h3] at e
          rw [if_neg h3]
          refine Ev.step (fun _ => rfl) (ev_neg (by simp [e]) ?_)
          have := rval_l0 (fin.length : Int) L s (by omega) fin next next (by omega) _ 0 rfl (by omega)
          rwa [List.drop_zero] at this
      by_cases h3 : fin.length = 0
      · exact ev_pos (by omega) (J true (decide_eq_true (.inl h3)).symm)
      · refine ev_neg (by omega) ?_
        by_cases h4 : next.length = fin.length
        · refine ev_pos (by omega) ?_
          by_cases h5 : s < 0
          · exact ev_pos h5 (J true (decide_eq_true (.inr (.inr (.inl h5)))).symm)
          · refine ev_neg h5 (J _ ?_)
            by_cases h6 : s ≥ (fin.length : Int)
            · rw [decide_eq_true h6, decide_eq_true (.inr (.inr (.inr h6)))]
            · rw [decide_eq_false h6, decide_eq_false (by omega)]
        · exact ev_neg (by omega) (J true (decide_eq_true (.inr (.inl h4))).symm)

theorem valid_ev (L s : Int) (fin : List Bool) (next : List (List Int)) : Ev (fun k => semigrouplaw07_valid.f k L s fin next) (valE L s fin next == 0) :=
  ev_bind (rval_ev _ _ _ _) (ev_some _)

theorem valE_zero {L s : Int} {fin : List Bool} {next : List (List Int)} (h : valE L s fin next = 0) :
    1 ≤ L ∧ L ≤ 6 ∧ 0 < fin.length ∧ fin.length ≤ 512 ∧ next.length = fin.length ∧ 0 ≤ s ∧ s < (fin.length : Int) ∧ ∀ row ∈ next, (row.length : Int) = L ∧ ∀ q ∈ row, 0 ≤ q ∧ q < (fin.length : Int) := by
  unfold valE at h
  by_cases h1 : L < 1 ∨ L > 6
  · rw [if_pos h1] at h; cases h
  rw [if_neg h1] at h
  by_cases h2 : fin.length > 512
  · rw [if_pos h2] at h; cases h
  rw [if_neg h2] at h
  by_cases h3 : fin.length = 0 ∨ next.length ≠ fin.length ∨ s < 0 ∨ s ≥ (fin.length : Int)
  · rw [if_pos h3] at h; cases h
  rw [if_neg h3] at h
  by_cases h4 : next.all (okRow fin.length L) = true
  · refine ⟨by omega, by omega, by omega, by omega, by omega, by omega, by omega, fun row hr => ?_⟩
    have h5 := List.all_eq_true.1 h4 row hr
    simp only [okRow, Bool.and_eq_true, decide_eq_true_eq, List.all_eq_true] at h5
    exact h5
  · rw [if_neg h4] at h; cases h
theorem valE_no {L s : Int} {fin : List Bool} {next : List (List Int)} : valE L s fin next = 0 ∨ valE L s fin next = 1 ∨ valE L s fin next = 3 ∨ valE L s fin next = 4 := by
  unfold valE
  repeat' split
  all_goals simp

/-- A search: the states in the order in which they are met, from where and by which letter, and their numbers. -/
structure SS where
  o : List Int
  f : List Int
  l : List Int
  m : List Int
def sk (i a : Int) (S : SS) (q : Int) : SS :=
  if rd S.m q < 0 then ⟨S.o ++ [q], S.f ++ [i], S.l ++ [a], S.m.set q.toNat (S.o.length : Int)⟩ else S
def srow (i : Int) : Nat → List Int → SS → SS
  | _, [], S => S
  | a, q :: row, S => srow i (a + 1) row (sk i (a : Int) S q)
def sgo (next : List (List Int)) : Nat → Nat → SS → SS
  | 0, _, S => S
  | d + 1, i, S => if i < S.o.length then sgo next d (i + 1) (srow (i : Int) 0 (rd_L1 next (rd S.o (i : Int))) S) else S
def s0 (n : Nat) (s : Int) : SS := ⟨[s], [-1], [-1], (List.replicate n (-1)).set s.toNat 0⟩
def srch (s : Int) (fin : List Bool) (next : List (List Int)) : SS := sgo next fin.length 0 (s0 fin.length s)
def plc : List Int → Nat → List Int → List Int
  | [], _, m => m
  | q :: o, i, m => plc o (i + 1) (m.set q.toNat (i : Int))
theorem plc_snoc (q : Int) : ∀ (o : List Int) (i : Nat) (m : List Int), plc (o ++ [q]) i m = (plc o i m).set q.toNat ((i + o.length : Nat) : Int)
  | [], i, m => rfl
  | p :: o, i, m => by
    show plc (o ++ [q]) (i + 1) _ = (plc o (i + 1) _).set q.toNat _
    rw [plc_snoc q o, show i + 1 + o.length = i + (p :: o).length from by simp; omega]
def ngc (m : List Int) : Nat := m.countP (fun x => decide (x < 0))
theorem ngc_set (m : List Int) (q v : Int) (h0 : 0 ≤ q) (h1 : q < (m.length : Int)) (hn : rd m q < 0) (hv : 0 ≤ v) : ngc (m.set q.toNat v) + 1 = ngc m := by
  obtain ⟨j, rfl⟩ : ∃ j : Nat, q = (j : Int) := ⟨q.toNat, by omega⟩
  have hj : j < m.length := by omega
  rw [rd_at m j hj] at hn
  unfold ngc
  rw [Int.toNat_natCast, List.countP_set hj]
  have hp : 0 < m.countP (fun x => decide (x < 0)) := List.countP_pos_iff.2 ⟨m[j], List.getElem_mem hj, by simpa using hn⟩
  simp only [hn, decide_true, if_true, show ¬ v < 0 by omega, decide_false]
  simp
  omega
structure SI (n : Nat) (L : Int) (S : SS) : Prop where
  ml : S.m.length = n
  ob : ∀ q ∈ S.o, 0 ≤ q ∧ q < (n : Int)
  cn : S.o.length + ngc S.m = n
  fl : S.f.length = S.o.length
  ll : S.l.length = S.o.length
  mp : S.m = plc S.o 0 (List.replicate n (-1))
  fb : ∀ j (h : j < S.f.length), 0 < j → 0 ≤ S.f[j] ∧ S.f[j] < (j : Int)
  lb : ∀ j (h : j < S.l.length), 0 < j → 0 ≤ S.l[j] ∧ S.l[j] < L
  pos : 0 < S.o.length
theorem SI.lt {n : Nat} {L : Int} {S : SS} (h : SI n L S) : S.o.length ≤ n := by have := h.cn; omega
theorem SI.start {n : Nat} {L s : Int} (h0 : 0 ≤ s) (h1 : s < (n : Int)) : SI n L (s0 n s) := by
  refine ⟨by simp [s0], fun q hq => ?_, ?_, rfl, rfl, rfl, fun j h hj => ?_, fun j h hj => ?_, by simp [s0]⟩
  · simp only [s0, List.mem_singleton] at hq
    omega
  · have := ngc_set (List.replicate n (-1)) s 0 h0 (by simpa using h1) (by
      obtain ⟨j, rfl⟩ : ∃ j : Nat, s = (j : Int) := ⟨s.toNat, by omega⟩
      rw [rd_at _ j (by simp; omega)]
      simp) (by omega)
    have h2 : ngc (List.replicate n (-1)) = n := by simp [ngc, List.countP_replicate]
    show 1 + ngc ((List.replicate n (-1)).set s.toNat 0) = n
    omega
  · simp [s0] at h; omega
  · simp [s0] at h; omega
theorem SI.step {n : Nat} {L : Int} {S : SS} (h : SI n L S) {i a q : Int} (hi : 0 ≤ i) (hi' : i < (S.o.length : Int)) (ha : 0 ≤ a ∧ a < L) (hq : 0 ≤ q ∧ q < (n : Int)) : SI n L (sk i a S q) := by
  unfold sk
  split
  · rename_i hn
    refine ⟨by simp [h.ml], fun p hp => ?_, ?_, ?_, ?_, ?_, ?_, ?_, ?_⟩
    · rcases List.mem_append.1 hp with hp | hp
      · exact h.ob p hp
      · rw [List.mem_singleton] at hp; omega
    · have := ngc_set S.m q (S.o.length : Int) hq.1 (by rw [h.ml]; exact hq.2) hn (by omega)
      have := h.cn
      show (S.o ++ [q]).length + ngc (S.m.set q.toNat _) = n
      rw [List.length_append, List.length_singleton]
      omega
    · show (S.f ++ [i]).length = (S.o ++ [q]).length
      rw [List.length_append, List.length_append, h.fl]; rfl
    · show (S.l ++ [a]).length = (S.o ++ [q]).length
      rw [List.length_append, List.length_append, h.ll]; rfl
    · show S.m.set q.toNat _ = plc (S.o ++ [q]) 0 _
      rw [plc_snoc, ← h.mp, Nat.zero_add]
    · intro j hj hp
      show 0 ≤ (S.f ++ [i])[j] ∧ (S.f ++ [i])[j] < (j : Int)
      by_cases e : j < S.f.length
      · rw [List.getElem_append_left e]; exact h.fb j e hp
      · simp only [List.length_append, List.length_singleton] at hj
        rw [List.getElem_append_right (by omega)]
        have := h.fl
        simp; omega
    · intro j hj hp
      show 0 ≤ (S.l ++ [a])[j] ∧ (S.l ++ [a])[j] < L
      by_cases e : j < S.l.length
      · rw [List.getElem_append_left e]; exact h.lb j e hp
      · simp only [List.length_append, List.length_singleton] at hj
        rw [List.getElem_append_right (by omega)]
        simp; omega
    · show 0 < (S.o ++ [q]).length
      simp
  · exact h
theorem sk_pre (i a : Int) (S : SS) (q : Int) : S.o <+: (sk i a S q).o := by
  unfold sk
  split
  · exact List.prefix_append _ _
  · exact List.prefix_refl _
theorem srow_pre (i : Int) : ∀ (row : List Int) (a : Nat) (S : SS), S.o <+: (srow i a row S).o
  | [], _, S => List.prefix_refl _
  | q :: row, a, S => (sk_pre i a S q).trans (srow_pre i row (a + 1) _)
theorem SI.row {n : Nat} {L : Int} {i : Int} : ∀ (row : List Int) (a : Nat) (S : SS), SI n L S → 0 ≤ i → i < (S.o.length : Int) → ((a + row.length : Nat) : Int) ≤ L → (∀ q ∈ row, 0 ≤ q ∧ q < (n : Int)) → SI n L (srow i a row S)
  | [], _, S, h, _, _, _, _ => h
  | q :: row, a, S, h, hi, hi', ha, hq => by
    have hp := (sk_pre i (a : Int) S q).length_le
    simp only [List.length_cons] at ha
    exact SI.row row (a + 1) _ (h.step hi hi' ⟨by omega, by omega⟩ (hq q (by simp))) hi (by omega) (by omega) (fun p hp => hq p (List.mem_cons_of_mem _ hp))
theorem rd_pre {l l' : List Int} (h : l <+: l') {i : Int} (h0 : 0 ≤ i) (h1 : i < (l.length : Int)) : rd l' i = rd l i := by
  obtain ⟨t, rfl⟩ := h
  obtain ⟨j, rfl⟩ : ∃ j : Nat, i = (j : Int) := ⟨i.toNat, by omega⟩
  have hj : j < l.length := by omega
  rw [rd_at _ j (by simp; omega), rd_at _ j hj, List.getElem_append_left hj]
theorem SI.go {n : Nat} {L : Int} {next : List (List Int)} (hn : next.length = n) (hv : ∀ row ∈ next, (row.length : Int) = L ∧ ∀ q ∈ row, 0 ≤ q ∧ q < (n : Int)) : ∀ (d i : Nat) (S : SS), SI n L S → SI n L (sgo next d i S) := by
  intro d
  induction d with
  | zero => intro i S h; exact h
  | succ d ih =>
    intro i S h
    unfold sgo
    split
    · rename_i hi
      refine ih (i + 1) _ ?_
      have hb := h.ob _ (List.getElem_mem hi)
      obtain ⟨q, hq⟩ : ∃ q : Nat, S.o[i] = (q : Int) := ⟨S.o[i].toNat, by omega⟩
      rw [rd_at S.o i hi, hq, rdL_at next q (by omega)]
      have hr := hv next[q] (List.getElem_mem _)
      exact SI.row _ 0 S h (by omega) (by omega) (by omega) hr.2
    · exact h
theorem SI.srch {L s : Int} {fin : List Bool} {next : List (List Int)} (h : valE L s fin next = 0) : SI fin.length L (srch s fin next) := by
  obtain ⟨v1, v2, v3, v4, v5, v6, v7, v8⟩ := valE_zero h
  exact SI.go v5 v8 _ _ _ (SI.start v6 v7)

theorem tk_set {α : Type} {xs ys : List α} {j : Nat} (h : j < xs.length) (hl : xs.length = ys.length) : (xs.take j ++ ys.drop j).set j xs[j] = xs.take (j + 1) ++ ys.drop (j + 1) := by
  apply List.ext_getElem?
  intro i
  simp only [List.getElem?_set, List.getElem?_append, List.getElem?_take, List.getElem?_drop, List.length_take, List.length_append, List.length_drop]
  by_cases h1 : j = i
  · subst h1
    rw [if_pos rfl, if_pos (by omega), if_pos (by omega), if_pos (by omega), List.getElem?_eq_getElem h]
  · rw [if_neg h1]
    by_cases h2 : i < j
    · rw [if_pos (by omega), if_pos h2, if_pos (by omega), if_pos (by omega)]
    · rw [if_neg (by omega), if_neg (by omega)]
      congr 1
      omega
theorem tk_all {α : Type} {xs ys : List α} {j : Nat} (h : xs.length ≤ j) (hl : xs.length = ys.length) : xs.take j ++ ys.drop j = xs := by
  rw [List.take_of_length_le h, List.drop_eq_nil_of_le (by omega), List.append_nil]
theorem tk_len {α : Type} {xs ys : List α} {j : Nat} (hl : xs.length = ys.length) : (xs.take j ++ ys.drop j).length = xs.length := by
  simp only [List.length_append, List.length_take, List.length_drop]; omega

theorem dsearch_l2 (L s : Int) (fin : List Bool) (next : List (List Int)) (n : Nat) (hn : n ≤ 512) (i : Nat) (row : List Int) (hl : (row.length : Int) = L) (hL : L ≤ 6) (hq : ∀ q ∈ row, 0 ≤ q ∧ q < (n : Int)) (r : List Int × List Int × List Int × List Int) : ∀ (d j : Nat) (S : SS), row.length - j = d → j ≤ row.length → SI n L S → i < S.o.length →
    Ev (fun k => dfa_search.l1 k (srow (i : Int) j (row.drop j) S).o (srow (i : Int) j (row.drop j) S).f (srow (i : Int) j (row.drop j) S).l (srow (i : Int) j (row.drop j) S).m (wrap64 ((i : Int) + 1)) L s fin next) r →
    Ev (fun k => dfa_search.l2 k S.o S.f S.l S.m (i : Int) row (row.length : Int) (j : Int) L s fin next) r := by
  intro d
  induction d with
  | zero =>
    intro j S hd hj hS hi h
    rw [List.drop_eq_nil_of_le (by omega)] at h
    exact Ev.step (fun _ => rfl) (ev_neg (by omega) h)
  | succ d ih =>
    intro j S hd hj hS hi h
    have hlt : j < row.length := by omega
    have hb := hq row[j] (List.getElem_mem hlt)
    rw [List.drop_eq_getElem_cons hlt] at h
    have hlen := hS.lt
    have hfl := hS.fl
    have hll := hS.ll
    have hml := hS.ml
    have hS' := hS.step (i := (i : Int)) (a := (j : Int)) (q := row[j]) (by omega) (by omega) ⟨by omega, by omega⟩ hb
    have hp := (sk_pre (i : Int) (j : Int) S row[j]).length_le
    have IH := ih (j + 1) _ (by omega) (by omega) hS' (by omega) h
    refine Ev.step (fun _ => rfl) (ev_pos (by omega) (ev_pos (by omega) (ev_pos (by omega) ?_)))
    rw [rd_at row j hlt, wrap_succ hlt (by omega)]
    refine ev_pos hb.1 (ev_pos (by omega) ?_)
    unfold sk at IH
    by_cases h1 : rd S.m row[j] < 0
    · rw [if_pos h1] at IH
      exact ev_pos h1 (ev_pos (by omega) (ev_pos (by omega) (ev_pos (by omega) IH)))
    · rw [if_neg h1] at IH
      exact ev_neg h1 IH
theorem dsearch_l1 (L s : Int) (fin : List Bool) (next : List (List Int)) (n : Nat) (hn : n ≤ 512) (hnl : next.length = n) (hL : L ≤ 6) (hv : ∀ row ∈ next, (row.length : Int) = L ∧ ∀ q ∈ row, 0 ≤ q ∧ q < (n : Int)) : ∀ (d i : Nat) (S : SS), n - i = d → SI n L S →
    Ev (fun k => dfa_search.l1 k S.o S.f S.l S.m (i : Int) L s fin next) ((sgo next d i S).o, (sgo next d i S).f, (sgo next d i S).l, (sgo next d i S).m) := by
  intro d
  induction d with
  | zero =>
    intro i S hd hS
    have := hS.lt
    exact Ev.step (fun _ => rfl) (ev_neg (by omega) (ev_some _))
  | succ d ih =>
    intro i S hd hS
    refine Ev.step (fun _ => rfl) ?_
    unfold sgo
    by_cases hi : i < S.o.length
    · rw [if_pos hi]
      have hb := hS.ob _ (List.getElem_mem hi)
      obtain ⟨q, hq⟩ : ∃ q : Nat, S.o[i] = (q : Int) := ⟨S.o[i].toNat, by omega⟩
      have e : rd S.o (i : Int) = (q : Int) := by rw [rd_at S.o i hi, hq]
      rw [hq] at hb
      have hr := hv next[q] (List.getElem_mem (by omega))
      refine ev_pos (by omega) (ev_pos (by omega) (ev_pos (by omega) (ev_pos (by omega) ?_)))
      rw [e, rdL_at next q (by omega)]
      refine dsearch_l2 L s fin next n hn i next[q] hr.1 hL hr.2 _ _ 0 S rfl (by omega) hS hi ?_
      rw [List.drop_zero, wrap_succ hi (by have := hS.lt; omega)]
      exact ih (i + 1) _ (by omega) (SI.row _ 0 S hS (by omega) (by omega) (by omega) hr.2)
    · rw [if_neg hi]
      exact ev_neg (by omega) (ev_some _)
theorem dsearch_l0 (L s : Int) (fin : List Bool) (next : List (List Int)) (n : Nat) (hn : n ≤ 512) (h0 : 0 ≤ s) (h1 : s < (n : Int)) (r : List Int × List Int × List Int × List Int)
    (h : Ev (fun k => dfa_search.l1 k (s0 n s).o (s0 n s).f (s0 n s).l (s0 n s).m 0 L s fin next) r) : ∀ (d i : Nat), n - i = d → i ≤ n →
    Ev (fun k => dfa_search.l0 k ((List.replicate n (-1)).take i ++ (List.replicate n 0).drop i) (n : Int) (i : Int) L s fin next) r := by
  have hlen : ∀ i, ((List.replicate n (-1 : Int)).take i ++ (List.replicate n 0).drop i).length = n := fun i => by rw [tk_len (by simp)]; simp
  intro d
  induction d with
  | zero =>
    intro i hd hi
    have hl := hlen i
    refine Ev.step (fun _ => rfl) (ev_neg (by omega) (ev_pos h0 (ev_pos (by omega) ?_)))
    rw [tk_all (by simp; omega) (by simp)]
    exact h
  | succ d ih =>
    intro i hd hi
    have hl := hlen i
    have hlt : i < n := by omega
    refine Ev.step (fun _ => rfl) (ev_pos (by omega) (ev_pos (by omega) (ev_pos (by omega) ?_)))
    have e := tk_set (xs := List.replicate n (-1 : Int)) (ys := List.replicate n 0) (j := i) (by simpa using hlt) (by simp)
    rw [List.getElem_replicate] at e
    rw [Int.toNat_natCast, e, wrap_succ hlt (by omega)]
    exact ih (i + 1) (by omega) (by omega)
theorem dsearch_ev (L s : Int) (fin : List Bool) (next : List (List Int)) (hv : valE L s fin next = 0) : Ev (fun k => dfa_search.f k L s fin next) ((srch s fin next).o, (srch s fin next).f, (srch s fin next).l, (srch s fin next).m) := by
  obtain ⟨v1, v2, v3, v4, v5, v6, v7, v8⟩ := valE_zero hv
  refine ev_pos (by omega) (ev_pos (by omega) (ev_bind0 rfl ?_))
  have h := dsearch_l0 L s fin next fin.length v4 v6 v7 _ (dsearch_l1 L s fin next fin.length v4 v5 v2 v8 fin.length 0 _ rfl (SI.start v6 v7)) _ 0 rfl (by omega)
  rw [List.take_zero, List.drop_zero, List.nil_append] at h
  rw [List.length_replicate]
  exact h

def trimF (fin : List Bool) (S : SS) : List Bool := S.o.map (rdOf false fin)
def trimN (next : List (List Int)) (S : SS) : List (List Int) := S.o.map (fun q => (rd_L1 next q).map (rd S.m))

theorem rdOf_at' {α : Type} (d : α) (l : List α) (i : Nat) (h : i < l.length) : rdOf d l (i : Int) = l[i] := by simp [rdOf, List.getD, h]
theorem dtrim_l1 (m : List Int) (q : Int) (o : List Int) (xl xi L s : Int) (fin : List Bool) (next : List (List Int)) (t0 t1 : Int) (tf : List Bool) (tn : List (List Int)) (row : List Int) (hrow : rd_L1 next q = row) (hq : 0 ≤ q ∧ q < (next.length : Int)) (hqf : q < (fin.length : Int)) (hm : ∀ p ∈ row, 0 ≤ p ∧ p < (m.length : Int)) (hl : row.length ≤ 6) (htf : tf.length ≤ 1000) (htn : tn.length ≤ 1000) (r : Int × Int × List Bool × List (List Int) × List Int)
    (h : Ev (fun k => dfa_Trim.l0 k m o xl (wrap64 (xi + 1)) L s fin next t0 t1 (tf ++ [rdOf false fin q]) (tn ++ [row.map (rd m)])) r) : ∀ (d j : Nat), row.length - j = d → j ≤ row.length →
    Ev (fun k => dfa_Trim.l1 k m q ((row.map (rd m)).take j ++ (List.replicate row.length 0).drop j) o xl xi (row.length : Int) (j : Int) L s fin next t0 t1 tf tn) r := by
  intro d
  induction d with
  | zero =>
    intro j hd hj
    refine Ev.step (fun _ => rfl) (ev_neg (by omega) (ev_pos hq.1 (ev_pos hqf (ev_pos (by omega) (ev_pos (by omega) ?_)))))
    rw [tk_all (by simp; omega) (by simp)]
    exact h
  | succ d ih =>
    intro j hd hj
    have hlt : j < row.length := by omega
    have hb := hm row[j] (List.getElem_mem hlt)
    refine Ev.step (fun _ => rfl) (ev_pos (by omega) (ev_pos hq.1 (ev_pos hq.2 (ev_pos (by omega) ?_))))
    rw [hrow, rd_at row j hlt]
    refine ev_pos (by omega) (ev_pos hb.1 (ev_pos hb.2 (ev_pos (by rw [tk_len (by simp)]; simp; omega) ?_)))
    have e := tk_set (xs := row.map (rd m)) (ys := List.replicate row.length 0) (j := j) (by simpa using hlt) (by simp)
    rw [List.getElem_map] at e
    rw [Int.toNat_natCast, e, wrap_succ hlt (by omega)]
    exact ih (j + 1) (by omega) (by omega)
theorem dtrim_l0 (n : Nat) (hn : n ≤ 512) (L s : Int) (hL : 0 ≤ L ∧ L ≤ 6) (fin : List Bool) (next : List (List Int)) (hf : fin.length = n) (hnl : next.length = n) (m : List Int) (hm : m.length = n) (hv : ∀ row ∈ next, (row.length : Int) = L ∧ ∀ q ∈ row, 0 ≤ q ∧ q < (n : Int)) (o : List Int) (ho : ∀ q ∈ o, 0 ≤ q ∧ q < (n : Int)) (hol : o.length ≤ n) : ∀ (d i : Nat), o.length - i = d → i ≤ o.length →
    Ev (fun k => dfa_Trim.l0 k m o (o.length : Int) (i : Int) L s fin next L 0 ((o.take i).map (rdOf false fin)) ((o.take i).map (fun q => (rd_L1 next q).map (rd m)))) (L, 0, o.map (rdOf false fin), o.map (fun q => (rd_L1 next q).map (rd m)), m) := by
  intro d
  induction d with
  | zero =>
    intro i hd hi
    refine Ev.step (fun _ => rfl) (ev_neg (by omega) ?_)
    rw [List.take_of_length_le (by omega)]
    exact ev_some _
  | succ d ih =>
    intro i hd hi
    have hlt : i < o.length := by omega
    have hb := ho o[i] (List.getElem_mem hlt)
    obtain ⟨q, hq⟩ : ∃ q : Nat, o[i] = (q : Int) := ⟨o[i].toNat, by omega⟩
    rw [hq] at hb
    have hr := hv next[q] (List.getElem_mem (by omega))
    refine Ev.step (fun _ => rfl) (ev_pos (by omega) (ev_pos (by omega) (ev_pos (by omega) (ev_pos hL.1 (ev_pos (by omega) (ev_bind0 rfl ?_))))))
    rw [rd_at o i hlt, hq]
    have hlen : L.toNat = next[q].length := by have := hr.1; omega
    rw [hlen]
    have IH := ih (i + 1) (by omega) (by omega)
    rw [List.take_succ_eq_append_getElem hlt, List.map_append, List.map_append, List.map_singleton, List.map_singleton, hq, rdL_at next q (by omega)] at IH
    have H := dtrim_l1 m (q : Int) o (o.length : Int) (i : Int) L s fin next L 0 ((o.take i).map (rdOf false fin)) ((o.take i).map (fun q => (rd_L1 next q).map (rd m))) next[q] (rdL_at next q (by omega)) (by omega) (by omega) (by rw [hm]; exact hr.2) (by omega) (by simp; omega) (by simp; omega) _ (by rw [wrap_succ hlt (by omega)]; exact IH) _ 0 rfl (by omega)
    rw [List.take_zero, List.drop_zero, List.nil_append] at H
    rw [List.length_replicate]
    exact H
theorem dtrim_ev (L s : Int) (fin : List Bool) (next : List (List Int)) : Ev (fun k => dfa_Trim.f k L s fin next) (if valE L s fin next = 0 then (L, 0, trimF fin (srch s fin next), trimN next (srch s fin next), (srch s fin next).m) else (0, 0, [], [], [])) := by
  refine ev_bind (dval_ev _ _ _ _) ?_
  by_cases hv : valE L s fin next = 0
  · rw [if_pos hv]
    obtain ⟨v1, v2, v3, v4, v5, v6, v7, v8⟩ := valE_zero hv
    have hS := SI.srch hv
    refine ev_pos hv (ev_bind (dsearch_ev L s fin next hv) ?_)
    have := dtrim_l0 fin.length v4 L s (by omega) fin next rfl v5 (srch s fin next).m hS.ml v8 (srch s fin next).o hS.ob hS.lt _ 0 rfl (by omega)
    simpa [trimF, trimN] using this
  · rw [if_neg hv]
    exact ev_neg hv (ev_some _)

def chr (a : Int) : ByteArray := strOfNums [(wrap64 (97 + a)) % 256]
theorem chr_size (a : Int) : (chr a).size = 1 := rfl
def wstep (ws : List ByteArray) (p : Int × Int) : List ByteArray := ws ++ [rdOf ByteArray.empty ws p.1 ++ chr p.2]
def wds (S : SS) : List ByteArray := (S.f.zip S.l).tail.foldl wstep [⟨#[]⟩]
def mt (m : List Int) : List Bool := m.map (fun x => decide (0 ≤ x))
structure WI (S : SS) : Prop where
  wl : (wds S).length = S.o.length
  wz : ∀ w ∈ wds S, w.size < S.o.length
theorem rdOf_at {α : Type} (d : α) (l : List α) (i : Nat) (h : i < l.length) : rdOf d l (i : Int) = l[i] := by simp [rdOf, List.getD, h]
theorem rdOf_pre {α : Type} (d : α) {l l' : List α} (h : l <+: l') {i : Int} (h0 : 0 ≤ i) (h1 : i < (l.length : Int)) : rdOf d l' i = rdOf d l i := by
  obtain ⟨t, rfl⟩ := h
  obtain ⟨j, rfl⟩ : ∃ j : Nat, i = (j : Int) := ⟨i.toNat, by omega⟩
  have hj : j < l.length := by omega
  rw [rdOf_at d _ j (by simp; omega), rdOf_at d _ j hj, List.getElem_append_left hj]
theorem wds_snoc {n : Nat} {L : Int} {S : SS} (h : SI n L S) (i a q : Int) (hn : rd S.m q < 0) : wds (sk i a S q) = wds S ++ [rdOf ByteArray.empty (wds S) i ++ chr a] := by
  unfold sk wds
  rw [if_pos hn]
  show ((S.f ++ [i]).zip (S.l ++ [a])).tail.foldl wstep _ = _
  rw [List.zip_append (by rw [h.fl, h.ll])]
  have hp := h.pos
  rw [List.tail_append_of_ne_nil (by
    intro e
    have := congrArg List.length e
    simp [h.fl, h.ll] at this
    rw [this] at hp
    simp at hp), List.foldl_append]
  rfl
theorem size_append (a b : ByteArray) : (a ++ b).size = a.size + b.size := by simp
theorem WI.step {n : Nat} {L : Int} {S : SS} (h : SI n L S) (w : WI S) (i a q : Int) (hi : 0 ≤ i) (hi' : i < (S.o.length : Int)) : WI (sk i a S q) := by
  by_cases hn : rd S.m q < 0
  · have e := wds_snoc h i a q hn
    have eo : (sk i a S q).o = S.o ++ [q] := by unfold sk; rw [if_pos hn]
    refine ⟨by rw [e, eo]; simp [w.wl], fun x hx => ?_⟩
    rw [e] at hx
    rw [eo, List.length_append, List.length_singleton]
    rcases List.mem_append.1 hx with hx | hx
    · have := w.wz x hx; omega
    · rw [List.mem_singleton] at hx
      obtain ⟨j, rfl⟩ : ∃ j : Nat, i = (j : Int) := ⟨i.toNat, by omega⟩
      have hj : j < (wds S).length := by rw [w.wl]; omega
      have := w.wz _ (List.getElem_mem hj)
      rw [hx, size_append, chr_size, rdOf_at _ _ j hj]
      omega
  · have e : sk i a S q = S := by unfold sk; rw [if_neg hn]
    rw [e]; exact w
theorem WI.row {n : Nat} {L : Int} {i : Int} : ∀ (row : List Int) (a : Nat) (S : SS), SI n L S → WI S → 0 ≤ i → i < (S.o.length : Int) → ((a + row.length : Nat) : Int) ≤ L → (∀ q ∈ row, 0 ≤ q ∧ q < (n : Int)) → WI (srow i a row S)
  | [], _, S, _, w, _, _, _, _ => w
  | q :: row, a, S, h, w, hi, hi', ha, hq => by
    have hp := (sk_pre i (a : Int) S q).length_le
    simp only [List.length_cons] at ha
    exact WI.row row (a + 1) _ (h.step hi hi' ⟨by omega, by omega⟩ (hq q (by simp))) (w.step h i _ q hi hi') hi (by omega) (by omega) (fun p hp => hq p (List.mem_cons_of_mem _ hp))
theorem WI.start (n : Nat) (s : Int) : WI (s0 n s) := ⟨rfl, fun w hw => by
  have : w = ⟨#[]⟩ := by simpa [wds, s0] using hw
  subst this
  show 0 < 1
  omega⟩
theorem mt_set (m : List Int) (q v : Int) (hv : 0 ≤ v) : mt (m.set q.toNat v) = (mt m).set q.toNat true := by
  unfold mt
  rw [List.map_set, decide_eq_true hv]
theorem mt_at {m : List Int} {q : Int} (h0 : 0 ≤ q) (h1 : q < (m.length : Int)) : rdOf false (mt m) q = decide (0 ≤ rd m q) := by
  obtain ⟨j, rfl⟩ : ∃ j : Nat, q = (j : Int) := ⟨q.toNat, by omega⟩
  have hj : j < m.length := by omega
  rw [rdOf_at _ _ j (by simp [mt]; omega), rd_at m j hj]
  simp [mt]
theorem WI.go {n : Nat} {L : Int} {next : List (List Int)} (hn : next.length = n) (hv : ∀ row ∈ next, (row.length : Int) = L ∧ ∀ q ∈ row, 0 ≤ q ∧ q < (n : Int)) : ∀ (d i : Nat) (S : SS), SI n L S → WI S → WI (sgo next d i S) := by
  intro d
  induction d with
  | zero => intro i S h w; exact w
  | succ d ih =>
    intro i S h w
    unfold sgo
    split
    · rename_i hi
      have hb := h.ob _ (List.getElem_mem hi)
      obtain ⟨q, hq⟩ : ∃ q : Nat, S.o[i] = (q : Int) := ⟨S.o[i].toNat, by omega⟩
      rw [rd_at S.o i hi, hq, rdL_at next q (by omega)]
      have hr := hv next[q] (List.getElem_mem _)
      exact ih (i + 1) _ (SI.row (i := (i : Int)) _ 0 S h (by omega) (by omega) (by omega) hr.2) (WI.row (i := (i : Int)) _ 0 S h w (by omega) (by omega) (by omega) hr.2)
    · exact w
theorem srch_WI {L s : Int} {fin : List Bool} {next : List (List Int)} (hv : valE L s fin next = 0) : WI (srch s fin next) := by
  obtain ⟨v1, v2, v3, v4, v5, v6, v7, v8⟩ := valE_zero hv
  exact WI.go v5 v8 _ _ _ (SI.start v6 v7) (WI.start _ _)

/-- A word's letters. -/
def lets (w : ByteArray) : List Int := (List.range w.size).map (fun i : Nat => (bt w (i : Int) - 97) % 256)
def wok (w : ByteArray) (L : Int) : Bool := (List.range w.size).all (fun i : Nat => decide (97 ≤ bt w (i : Int) ∧ (bt w (i : Int) - 97) % 256 < L))
def wvalid (w : ByteArray) (L : Int) : Bool := decide (1 ≤ L ∧ L ≤ 6 ∧ w.size ≤ 2048) && wok w L
def go1 (next : List (List Int)) (q a : Int) : Int := rd (rd_L1 next q) a
def runs (next : List (List Int)) (q : Int) (ls : List Int) : Int := ls.foldl (go1 next) q
theorem lets_length (w : ByteArray) : (lets w).length = w.size := by simp [lets]
theorem lets_at (w : ByteArray) (i : Nat) (h : i < (lets w).length) : (lets w)[i] = (bt w (i : Int) - 97) % 256 := by simp [lets]
theorem lets_ok {w : ByteArray} {L : Int} (h : wok w L = true) : ∀ a ∈ lets w, 0 ≤ a ∧ a < L := by
  intro a ha
  simp only [lets, List.mem_map, List.mem_range] at ha
  obtain ⟨i, hi, rfl⟩ := ha
  have := List.all_eq_true.1 h i (List.mem_range.2 hi)
  simp only [decide_eq_true_eq] at this
  exact ⟨by omega, this.2⟩

theorem go1_ok {next : List (List Int)} {L n : Int} (hv : ∀ row ∈ next, (row.length : Int) = L ∧ ∀ q ∈ row, 0 ≤ q ∧ q < n) {q a : Int} (h0 : 0 ≤ q) (h1 : q < (next.length : Int)) (a0 : 0 ≤ a) (a1 : a < L) : ((rd_L1 next q).length : Int) = L ∧ 0 ≤ go1 next q a ∧ go1 next q a < n := by
  obtain ⟨m, rfl⟩ : ∃ m : Nat, q = (m : Int) := ⟨q.toNat, by omega⟩
  obtain ⟨c, rfl⟩ : ∃ c : Nat, a = (c : Int) := ⟨a.toNat, by omega⟩
  have hm : m < next.length := by omega
  unfold go1
  rw [rdL_at next m hm]
  obtain ⟨h2, h3⟩ := hv next[m] (List.getElem_mem hm)
  have hc : c < next[m].length := by omega
  rw [rd_at _ c hc]
  exact ⟨h2, h3 _ (List.getElem_mem hc)⟩
theorem runs_ok {next : List (List Int)} {L : Int} (hv : ∀ row ∈ next, (row.length : Int) = L ∧ ∀ q ∈ row, 0 ≤ q ∧ q < (next.length : Int)) : ∀ (ls : List Int) (q : Int), 0 ≤ q → q < (next.length : Int) → (∀ a ∈ ls, 0 ≤ a ∧ a < L) → 0 ≤ runs next q ls ∧ runs next q ls < (next.length : Int)
  | [], q, h0, h1, _ => ⟨h0, h1⟩
  | a :: ls, q, h0, h1, h => by
    have ha := h a (by simp)
    have hg := (go1_ok hv h0 h1 ha.1 ha.2).2
    exact runs_ok hv ls (go1 next q a) hg.1 hg.2 (fun b hb => h b (List.mem_cons_of_mem _ hb))

/-- Numbers that are bytes. -/
def Byt (xs : List Int) : Prop := ∀ x ∈ xs, 0 ≤ x ∧ x < 256
theorem byt_of (s : ByteArray) : Byt (bytesOf s) := by
  intro x hx
  obtain ⟨b, _, rfl⟩ := List.mem_map.1 hx
  have := b.toNat_lt
  omega
theorem of_str {xs : List Int} (h : Byt xs) : bytesOf (strOfNums xs) = xs := by
  rw [bytesOf, strOfNums_data, List.map_map]
  refine (List.map_congr_left (fun x hx => ?_)).trans (List.map_id _)
  have := h x hx
  simp only [Function.comp, UInt8.toNat_ofNat', id]
  omega
theorem str_of (s : ByteArray) : strOfNums (bytesOf s) = s := by
  have h : (strOfNums (bytesOf s)).data.toList = s.data.toList := by
    rw [strOfNums_data, bytesOf, List.map_map]
    refine (List.map_congr_left (fun x hx => ?_)).trans (List.map_id _)
    simp
  cases s
  exact congrArg ByteArray.mk (Array.toList_inj.1 h)
theorem of_inj {a b : ByteArray} (h : bytesOf a = bytesOf b) : a = b := by rw [← str_of a, h, str_of]
theorem toList_inj {a b : ByteArray} : a.toList = b.toList ↔ a = b := by
  refine ⟨fun h => ?_, fun h => by rw [h]⟩
  rw [ByteArray.toList_eq, ByteArray.toList_eq] at h
  cases a
  cases b
  exact congrArg ByteArray.mk (Array.toList_inj.1 h)
theorem str_eq {xs : List Int} (h : Byt xs) (s : ByteArray) : ((strOfNums xs).toList == s.toList) = decide (xs = bytesOf s) := by
  rw [Bool.eq_iff_iff, beq_iff_eq, decide_eq_true_eq, toList_inj]
  exact ⟨fun e => by rw [← e, of_str h], fun e => by rw [e, str_of]⟩
theorem bt_at (s : ByteArray) (i : Nat) (h : i < s.size) : bt s i = (bytesOf s)[i]'(by rw [bytesOf_length]; exact h) := by
  rw [bt, dif_pos (by simpa using h)]
  simp [bytesOf]
  rfl
/-- The letters of a word. -/
def Let (xs : List Int) (n : Int) : Prop := ∀ x ∈ xs, 97 ≤ x ∧ x < 97 + n
theorem Let.byt {xs : List Int} {n : Int} (h : Let xs n) (hn : n ≤ 6) : Byt xs := fun x hx => by have := h x hx; omega

/-- Shortlex order of two words: less, equal, greater. -/
def cmpW (a b : ByteArray) : Int := if a.size < b.size then -1 else if b.size < a.size then 1 else if Op.bytesLess a.toList b.toList = true then -1 else if Op.bytesLess b.toList a.toList = true then 1 else 0
theorem toList_len (a : ByteArray) : a.toList.length = a.size := by
  rw [ByteArray.toList_eq]; rfl

def u8 (xs : List Int) : List UInt8 := xs.map fun n => UInt8.ofNat n.toNat
theorem str_toList (xs : List Int) : (strOfNums xs).toList = u8 xs := by rw [ByteArray.toList_eq, strOfNums_data]; rfl
theorem toList_u8 (s : ByteArray) : s.toList = u8 (bytesOf s) := by rw [← str_toList, str_of]
theorem bl_trans : ∀ {a b c : List UInt8}, Op.bytesLess a b = true → Op.bytesLess b c = true → Op.bytesLess a c = true
  | [], [], _, h, _ => by simp [Op.bytesLess] at h
  | [], _ :: _, [], _, h => by simp [Op.bytesLess] at h
  | [], _ :: _, _ :: _, _, _ => rfl
  | _ :: _, [], _, h, _ => by simp [Op.bytesLess] at h
  | _ :: _, _ :: _, [], _, h => by simp [Op.bytesLess] at h
  | x :: a, y :: b, z :: c, h, h' => by
    simp only [Op.bytesLess, Bool.or_eq_true, Bool.and_eq_true, decide_eq_true_eq, beq_iff_eq, UInt8.lt_iff_toNat_lt] at h h' ⊢
    rcases h with h | ⟨rfl, h⟩
    · rcases h' with h' | ⟨rfl, h'⟩
      · exact .inl (by omega)
      · exact .inl h
    · rcases h' with h' | ⟨rfl, h'⟩
      · exact .inl h'
      · exact .inr ⟨rfl, bl_trans h h'⟩
theorem bl_pre (p : List UInt8) {a b : List UInt8} (h : Op.bytesLess a b = true) : Op.bytesLess (p ++ a) (p ++ b) = true := by
  induction p with
  | nil => exact h
  | cons x p ih => simp [Op.bytesLess, ih]
theorem bl_suf : ∀ {a b : List UInt8} (s : List UInt8), a.length = b.length → Op.bytesLess a b = true → Op.bytesLess (a ++ s) (b ++ s) = true
  | [], [], _, _, h => by simp [Op.bytesLess] at h
  | [], _ :: _, _, h, _ => by simp at h
  | _ :: _, [], _, h, _ => by simp at h
  | x :: a, y :: b, s, hl, h => by
    simp only [List.cons_append, Op.bytesLess, Bool.or_eq_true, Bool.and_eq_true, decide_eq_true_eq, beq_iff_eq] at h ⊢
    rcases h with h | ⟨rfl, h⟩
    · exact .inl h
    · exact .inr ⟨rfl, bl_suf s (by simpa using hl) h⟩
/-- The shortlex order. -/
def Slx (a b : List Int) : Prop := a.length < b.length ∨ (a.length = b.length ∧ Op.bytesLess (u8 a) (u8 b) = true)
theorem Slx.trans {a b c : List Int} (h : Slx a b) (h' : Slx b c) : Slx a c := by
  rcases h with h | ⟨h, k⟩ <;> rcases h' with h' | ⟨h', k'⟩
  · exact .inl (by omega)
  · exact .inl (by omega)
  · exact .inl (by omega)
  · exact .inr ⟨by omega, bl_trans k k'⟩
theorem Slx.irrefl {a : List Int} (h : Slx a a) : False := by
  rcases h with h | ⟨_, h⟩
  · omega
  · rw [bl_irrefl] at h
    cases h
theorem Slx.put {a b : List Int} (h : Slx a b) (p s : List Int) : Slx (p ++ a ++ s) (p ++ b ++ s) := by
  rcases h with h | ⟨h, k⟩
  · exact .inl (by simp only [List.length_append]; omega)
  · refine .inr ⟨by simp only [List.length_append]; omega, ?_⟩
    simp only [u8, List.map_append] at k ⊢
    rw [List.append_assoc, List.append_assoc]
    exact bl_pre _ (bl_suf _ (by simpa using h) k)
theorem cmp_pos {a b : ByteArray} (h : 0 < cmpW a b) : Slx (bytesOf b) (bytesOf a) := by
  unfold cmpW at h
  unfold Slx
  rw [bytesOf_length, bytesOf_length, ← toList_u8, ← toList_u8]
  split at h
  · omega
  · split at h
    · exact .inl (by assumption)
    · split at h
      · omega
      · split at h
        · exact .inr ⟨by omega, by assumption⟩
        · omega
theorem cmp_neg {a b : ByteArray} (h : Slx (bytesOf a) (bytesOf b)) : cmpW a b ≤ 0 := by
  unfold Slx at h
  rw [bytesOf_length, bytesOf_length, ← toList_u8, ← toList_u8] at h
  unfold cmpW
  rcases h with h | ⟨h, k⟩
  · rw [if_pos h]; omega
  · rw [if_neg (by omega), if_neg (by omega), if_pos k]; omega
theorem cmp_self (a : ByteArray) : cmpW a a ≤ 0 := by
  unfold cmpW
  rw [if_neg (by omega), if_neg (by omega), if_neg (by rw [bl_irrefl]; simp), if_neg (by rw [bl_irrefl]; simp)]
  omega

theorem chr_bytes {a : Int} (h0 : 0 ≤ a) (h1 : a < 6) : bytesOf (chr a) = [97 + a] := by
  have e : wrap64 (97 + a) % 256 = 97 + a := by rw [wrap_in (by omega) (by omega)]; omega
  unfold chr
  rw [e, of_str (fun x hx => by rw [List.mem_singleton] at hx; omega)]
theorem bytes_append (a b : ByteArray) : bytesOf (a ++ b) = bytesOf a ++ bytesOf b := by simp [bytesOf]
/-- Letters of bytes. -/
def letB (xs : List Int) : List Int := xs.map (fun b => (b - 97) % 256)
theorem lets_eq (w : ByteArray) : lets w = letB (bytesOf w) := by
  apply List.ext_getElem
  · rw [lets_length]; simp [letB, bytesOf_length]
  · intro i h1 h2
    rw [lets_at]
    simp only [letB, List.getElem_map]
    rw [bt_at w i (by rw [lets_length] at h1; exact h1)]
theorem bl_app : ∀ {a b : List UInt8} (s t : List UInt8), a.length = b.length → Op.bytesLess a b = true → Op.bytesLess (a ++ s) (b ++ t) = true
  | [], [], _, _, _, h => by simp [Op.bytesLess] at h
  | [], _ :: _, _, _, h, _ => by simp at h
  | _ :: _, [], _, _, h, _ => by simp at h
  | x :: a, y :: b, s, t, hl, h => by
    simp only [List.cons_append, Op.bytesLess, Bool.or_eq_true, Bool.and_eq_true, decide_eq_true_eq, beq_iff_eq] at h ⊢
    rcases h with h | ⟨rfl, h⟩
    · exact .inl h
    · exact .inr ⟨rfl, bl_app s t (by simpa using hl) h⟩
theorem Slx.app {u v : List Int} (h : Slx u v) (x y : Int) : Slx (u ++ [x]) (v ++ [y]) := by
  rcases h with h | ⟨h, k⟩
  · exact .inl (by simp; omega)
  · refine .inr ⟨by simp [h], ?_⟩
    simp only [u8, List.map_append] at k ⊢
    exact bl_app _ _ (by simpa using h) k
theorem Slx.last {u : List Int} {x y : Int} (h0 : 0 ≤ x) (h : x < y) (hy : y < 256) : Slx (u ++ [x]) (u ++ [y]) := by
  refine .inr ⟨by simp, ?_⟩
  simp only [u8, List.map_append, List.map_cons, List.map_nil]
  refine bl_pre _ ?_
  simp only [Op.bytesLess, Bool.or_eq_true, decide_eq_true_eq]
  refine .inl ?_
  rw [UInt8.lt_iff_toNat_lt, UInt8.toNat_ofNat', UInt8.toNat_ofNat']
  omega
theorem Slx.nil {v : List Int} (h : v ≠ []) : Slx [] v := by
  cases v with
  | nil => exact absurd rfl h
  | cons x v => exact .inl (by simp)
/-- The word of a state of the search, as bytes. -/
def W (S : SS) (j : Nat) : List Int := bytesOf (rdOf ByteArray.empty (wds S) (j : Int))
structure BC (next : List (List Int)) (L s : Int) (S : SS) (i a : Nat) : Prop where
  w0 : W S 0 = []
  o0 : rd S.o 0 = s
  asc : ∀ j k : Nat, j < k → k < S.o.length → Slx (W S j) (W S k)
  run : ∀ j : Nat, j < S.o.length → runs next s (letB (W S j)) = rd S.o (j : Int)
  let' : ∀ j : Nat, j < S.o.length → Let (W S j) L
  cmp : ∀ i' a' : Nat, i' < S.o.length → (a' : Int) < L → (i' < i ∨ i' = i ∧ a' < a) → ∃ j : Nat, j < S.o.length ∧ rd S.o (j : Int) = go1 next (rd S.o (i' : Int)) (a' : Int) ∧ ¬ Slx (W S i' ++ [97 + (a' : Int)]) (W S j)
  nm : ∀ j : Nat, j < S.o.length → rd S.m (rd S.o (j : Int)) = (j : Int)
  mn : ∀ q : Int, 0 ≤ q → q < (S.m.length : Int) → 0 ≤ rd S.m q → rd S.m q < (S.o.length : Int) ∧ rd S.o (rd S.m q) = q
  par : ∀ j : Nat, 0 < j → j < S.o.length → rdOf ByteArray.empty (wds S) (j : Int) = rdOf ByteArray.empty (wds S) (rd S.f (j : Int)) ++ chr (rd S.l (j : Int))
def BCur (S : SS) (i a : Nat) : Prop := ∀ j : Nat, j < S.o.length → Slx (W S j) (W S i ++ [97 + (a : Int)])
theorem Slx.asymm {a b : List Int} (h : Slx a b) (h' : Slx b a) : False := (h.trans h').irrefl
theorem BC.step {next : List (List Int)} {n : Nat} {L s : Int} {S : SS} {i a : Nat} (hS : SI n L S) (w : WI S) (h : BC next L s S i a) (hc : BCur S i a) (hi : i < S.o.length) (ha : (a : Int) < L) (hL : L ≤ 6) (q : Int) (hq : 0 ≤ q ∧ q < (n : Int)) (hqe : q = go1 next (rd S.o (i : Int)) (a : Int)) :
    BC next L s (sk (i : Int) (a : Int) S q) i (a + 1) ∧ BCur (sk (i : Int) (a : Int) S q) i (a + 1) := by
  have hml := hS.ml
  by_cases hn : rd S.m q < 0
  · have e := wds_snoc hS (i : Int) (a : Int) q hn
    have eS : sk (i : Int) (a : Int) S q = ⟨S.o ++ [q], S.f ++ [(i : Int)], S.l ++ [(a : Int)], S.m.set q.toNat (S.o.length : Int)⟩ := by unfold sk; rw [if_pos hn]
    generalize hS' : sk (i : Int) (a : Int) S q = S' at e eS
    have eo : S'.o = S.o ++ [q] := by rw [eS]
    have ef : S'.f = S.f ++ [(i : Int)] := by rw [eS]
    have el : S'.l = S.l ++ [(a : Int)] := by rw [eS]
    have em : S'.m = S.m.set q.toNat (S.o.length : Int) := by rw [eS]
    have hol : S'.o.length = S.o.length + 1 := by rw [eo]; simp
    have hwl := w.wl
    have hfl := hS.fl
    have hll := hS.ll
    have wold : ∀ j : Nat, j < S.o.length → rdOf ByteArray.empty (wds S') (j : Int) = rdOf ByteArray.empty (wds S) (j : Int) := fun j hj => by
      rw [e]; exact rdOf_pre _ (List.prefix_append _ _) (by omega) (by omega)
    have Wold : ∀ j : Nat, j < S.o.length → W S' j = W S j := fun j hj => by unfold W; rw [wold j hj]
    have wnew : rdOf ByteArray.empty (wds S') (S.o.length : Int) = rdOf ByteArray.empty (wds S) (i : Int) ++ chr (a : Int) := by
      rw [e, rdOf_at _ _ _ (by simp; omega), List.getElem_append_right (by omega)]
      simp [hwl]
    have Wnew : W S' S.o.length = W S i ++ [97 + (a : Int)] := by
      unfold W
      rw [wnew, bytes_append, chr_bytes (by omega) (by omega)]
    have oold : ∀ j : Nat, j < S.o.length → rd S'.o (j : Int) = rd S.o (j : Int) := fun j hj => by
      rw [eo]; exact rd_pre (List.prefix_append _ _) (by omega) (by omega)
    have onew : rd S'.o (S.o.length : Int) = q := by rw [eo, rd_app]
    have hin : ∀ j : Nat, j < S'.o.length → j < S.o.length ∨ j = S.o.length := fun j hj => by omega
    have hmset : ∀ p : Int, 0 ≤ p → p < (S.m.length : Int) → rd S'.m p = if q = p then (S.o.length : Int) else rd S.m p := fun p h0 h1 => by
      obtain ⟨x, rfl⟩ := Int.eq_ofNat_of_zero_le hq.1
      obtain ⟨y, rfl⟩ := Int.eq_ofNat_of_zero_le h0
      rw [em]
      simp only [Int.toNat_natCast, rd, List.getD_eq_getElem?_getD, List.getElem?_set]
      by_cases hxy : x = y
      · subst hxy
        have hl' : x < S.m.length := by omega
        simp [hl']
      · have h' : ¬ ((x : Int) = (y : Int)) := by omega
        rw [if_neg hxy, if_neg h']
    have hlast : Slx (W S i ++ [97 + (a : Int)]) (W S i ++ [97 + ((a + 1 : Nat) : Int)]) := Slx.last (by omega) (by omega) (by omega)
    have hob : ∀ j : Nat, j < S.o.length → 0 ≤ rd S.o (j : Int) ∧ rd S.o (j : Int) < (n : Int) := fun j hj => by
      rw [rd_at S.o j hj]; exact hS.ob _ (List.getElem_mem hj)
    refine ⟨⟨?_, ?_, ?_, ?_, ?_, ?_, ?_, ?_, ?_⟩, ?_⟩
    · rw [Wold 0 hS.pos]; exact h.w0
    · have := oold 0 hS.pos
      simpa using this.trans (by simpa using h.o0)
    · intro j k hjk hk
      rcases hin k hk with hk | rfl
      · rw [Wold j (by omega), Wold k hk]; exact h.asc j k hjk hk
      · rw [Wold j hjk, Wnew]; exact hc j hjk
    · intro j hj
      rcases hin j hj with hj | rfl
      · rw [Wold j hj, oold j hj]; exact h.run j hj
      · rw [Wnew, onew]
        have := h.run i hi
        unfold runs letB at this ⊢
        rw [List.map_append, List.foldl_append, this, hqe]
        simp only [List.map_cons, List.map_nil, List.foldl_cons, List.foldl_nil]
        rw [show (97 + (a : Int) - 97) % 256 = (a : Int) by omega]
    · intro j hj
      rcases hin j hj with hj | rfl
      · rw [Wold j hj]; exact h.let' j hj
      · rw [Wnew]
        intro x hx
        rcases List.mem_append.1 hx with hx | hx
        · exact h.let' i hi x hx
        · rw [List.mem_singleton] at hx; omega
    · intro i' a' hi' ha' hlt
      have hi'' : i' < S.o.length := by omega
      rw [oold i' hi'', Wold i' hi'']
      rcases (show (i' < i ∨ i' = i ∧ a' < a) ∨ i' = i ∧ a' = a by omega) with hlt | ⟨rfl, rfl⟩
      · obtain ⟨j, hj, h1, h2⟩ := h.cmp i' a' hi'' ha' hlt
        exact ⟨j, by omega, by rw [oold j hj]; exact h1, by rw [Wold j hj]; exact h2⟩
      · exact ⟨S.o.length, by omega, by rw [onew]; exact hqe, by rw [Wnew]; exact fun h => h.irrefl⟩
    · intro j hj
      rcases hin j hj with hj | rfl
      · have hb := hob j hj
        rw [oold j hj, hmset _ hb.1 (by omega)]
        have := h.nm j hj
        rw [if_neg]
        · exact this
        · rintro rfl
          omega
      · rw [onew, hmset q hq.1 (by omega), if_pos rfl]
    · intro p h0 h1 h2
      rw [em, List.length_set] at h1
      rw [hmset p h0 h1] at h2 ⊢
      by_cases hp : q = p
      · rw [if_pos hp]
        exact ⟨by omega, by rw [onew]; exact hp⟩
      · rw [if_neg hp] at h2 ⊢
        have := h.mn p h0 h1 h2
        obtain ⟨y, hy⟩ := Int.eq_ofNat_of_zero_le h2
        rw [hy] at this ⊢
        exact ⟨by omega, by rw [oold y (by omega)]; exact this.2⟩
    · intro j hj hj'
      rcases hin j hj' with hj' | rfl
      · have hfb := hS.fb j (by omega) hj
        rw [wold j hj', h.par j hj hj', ef, el, rd_pre (List.prefix_append _ _) (by omega) (by omega), rd_pre (List.prefix_append _ _) (by omega) (by omega)]
        rw [← rd_at S.f j (by omega)] at hfb
        obtain ⟨y, hy⟩ := Int.eq_ofNat_of_zero_le hfb.1
        rw [hy] at hfb ⊢
        rw [wold y (by omega)]
      · rw [wnew, ef, el, ← hfl, rd_app, hfl, ← hll, rd_app, wold i hi]
    · intro j hj
      rw [Wold i hi]
      rcases hin j hj with hj | rfl
      · rw [Wold j hj]; exact (hc j hj).trans hlast
      · rw [Wnew]; exact hlast
  · have e : sk (i : Int) (a : Int) S q = S := by unfold sk; rw [if_neg hn]
    rw [e]
    have hlast : Slx (W S i ++ [97 + (a : Int)]) (W S i ++ [97 + ((a + 1 : Nat) : Int)]) := Slx.last (by omega) (by omega) (by omega)
    refine ⟨⟨h.w0, h.o0, h.asc, h.run, h.let', ?_, h.nm, h.mn, h.par⟩, fun j hj => (hc j hj).trans hlast⟩
    intro i' a' hi' ha' hlt
    rcases (show (i' < i ∨ i' = i ∧ a' < a) ∨ i' = i ∧ a' = a by omega) with hlt | ⟨rfl, rfl⟩
    · exact h.cmp i' a' hi' ha' hlt
    · have := h.mn q hq.1 (by omega) (by omega)
      obtain ⟨y, hy⟩ := Int.eq_ofNat_of_zero_le (show 0 ≤ rd S.m q by omega)
      rw [hy] at this
      exact ⟨y, by omega, by rw [this.2]; exact hqe, fun hh => (hc y (by omega)).asymm hh⟩
theorem BC.row {next : List (List Int)} {n : Nat} {L s : Int} {i : Nat} (hL : L ≤ 6) (x : Int) : ∀ (row : List Int) (a : Nat) (S : SS), SI n L S → WI S → BC next L s S i a → BCur S i a → i < S.o.length → ((a + row.length : Nat) : Int) = L → (∀ q ∈ row, 0 ≤ q ∧ q < (n : Int)) → rd S.o (i : Int) = x → (∀ j : Nat, (h : j < row.length) → row[j] = go1 next x ((a + j : Nat) : Int)) →
    BC next L s (srow (i : Int) a row S) i (a + row.length) ∧ BCur (srow (i : Int) a row S) i (a + row.length)
  | [], a, S, _, _, h, hc, _, _, _, _, _ => ⟨h, hc⟩
  | q :: row, a, S, hS, w, h, hc, hi, ha, hq, hx, hr => by
    have hp := (sk_pre (i : Int) (a : Int) S q)
    have hp' := hp.length_le
    simp only [List.length_cons] at ha
    have hqe : q = go1 next (rd S.o (i : Int)) (a : Int) := by rw [hx]; exact hr 0 (by simp)
    have st := BC.step hS w h hc hi (by omega) hL q (hq q (by simp)) hqe
    have := BC.row hL x row (a + 1) _ (hS.step (by omega) (by omega) ⟨by omega, by omega⟩ (hq q (by simp))) (w.step hS (i : Int) (a : Int) q (by omega) (by omega)) st.1 st.2 (by omega) (by omega) (fun p hp => hq p (List.mem_cons_of_mem _ hp)) (by rw [rd_pre hp (by omega) (by omega)]; exact hx)
      (fun j hj => by have := hr (j + 1) (by simp; omega); rw [List.getElem_cons_succ] at this; rw [this, show a + (j + 1) = a + 1 + j by omega])
    rw [List.length_cons, show a + (row.length + 1) = a + 1 + row.length by omega]
    exact this
theorem BC.go {next : List (List Int)} {n : Nat} {L s : Int} (hnl : next.length = n) (hL : L ≤ 6) (hv : ∀ row ∈ next, (row.length : Int) = L ∧ ∀ q ∈ row, 0 ≤ q ∧ q < (n : Int)) : ∀ (d i : Nat) (S : SS), n - i = d → SI n L S → WI S → BC next L s S i 0 → (i < S.o.length → BCur S i 0) →
    BC next L s (sgo next d i S) (sgo next d i S).o.length 0 := by
  intro d
  induction d with
  | zero =>
    intro i S hd hS hw h hc
    have hlt := hS.lt
    show BC next L s S S.o.length 0
    exact ⟨h.w0, h.o0, h.asc, h.run, h.let', fun i' a' h1 h2 _ => h.cmp i' a' h1 h2 (.inl (by omega)), h.nm, h.mn, h.par⟩
  | succ d ih =>
    intro i S hd hS hw h hc
    unfold sgo
    by_cases hi : i < S.o.length
    · rw [if_pos hi]
      have hb := hS.ob _ (List.getElem_mem hi)
      obtain ⟨q, hq⟩ : ∃ q : Nat, S.o[i] = (q : Int) := ⟨S.o[i].toNat, by omega⟩
      have e : rd S.o (i : Int) = (q : Int) := by rw [rd_at S.o i hi, hq]
      rw [hq] at hb
      have hr := hv next[q] (List.getElem_mem (by omega))
      rw [e, rdL_at next q (by omega)]
      have hS' := SI.row (i := (i : Int)) next[q] 0 S hS (by omega) (by omega) (by omega) hr.2
      have hw' := WI.row (i := (i : Int)) next[q] 0 S hS hw (by omega) (by omega) (by omega) hr.2
      have st := BC.row (s := s) hL (q : Int) next[q] 0 S hS hw h (hc hi) hi (by have := hr.1; omega) hr.2 e (fun j hj => by unfold go1; rw [rdL_at next q (by omega), Nat.zero_add, rd_at _ j hj])
      have hlen : ((0 + next[q].length : Nat) : Int) = L := by have := hr.1; omega
      refine ih (i + 1) _ (by omega) hS' hw' ?_ ?_
      · have h := st.1
        exact ⟨h.w0, h.o0, h.asc, h.run, h.let', fun i' a' h1 h2 h3 => h.cmp i' a' h1 h2 (by omega), h.nm, h.mn, h.par⟩
      · intro hi' j hj
        have h1 := st.2 j hj
        exact h1.trans (Slx.app (st.1.asc i (i + 1) (by omega) hi') _ _)
    · rw [if_neg hi]
      exact ⟨h.w0, h.o0, h.asc, h.run, h.let', fun i' a' h1 h2 _ => h.cmp i' a' h1 h2 (.inl (by omega)), h.nm, h.mn, h.par⟩
theorem BC.start {next : List (List Int)} {n : Nat} {L s : Int} (h0 : 0 ≤ s) (h1 : s < (n : Int)) : BC next L s (s0 n s) 0 0 ∧ BCur (s0 n s) 0 0 := by
  have hS := SI.start (L := L) h0 h1
  have hw : W (s0 n s) 0 = [] := rfl
  have hz : ∀ j : Nat, j < (s0 n s).o.length → j = 0 := fun j hj => by simp [s0] at hj; omega
  have hm : ∀ p : Int, 0 ≤ p → p < (n : Int) → rd (s0 n s).m p = if s = p then 0 else -1 := fun p h2 h3 => by
    obtain ⟨x, rfl⟩ := Int.eq_ofNat_of_zero_le h0
    obtain ⟨y, rfl⟩ := Int.eq_ofNat_of_zero_le h2
    show rd ((List.replicate n (-1)).set (x : Int).toNat 0) (y : Int) = _
    rw [Int.toNat_natCast, rd_at _ y (by simp; omega), List.getElem_set]
    by_cases hxy : x = y
    · subst hxy; simp
    · rw [if_neg hxy, if_neg (by omega)]; simp
  refine ⟨⟨hw, rfl, fun j k hjk hk => ?_, fun j hj => ?_, fun j hj => ?_, fun i' a' h2 h3 h4 => ?_, fun j hj => ?_, fun q h2 h3 h4 => ?_, fun j hj hj' => ?_⟩, fun j hj => ?_⟩
  · have := hz k hk; omega
  · rw [hz j hj]; rfl
  · rw [hz j hj, hw]
    intro x hx
    simp at hx
  · omega
  · rw [hz j hj]
    show rd (s0 n s).m s = 0
    rw [hm s h0 h1, if_pos rfl]
  · have h3' : q < (n : Int) := by simpa [s0] using h3
    rw [hm q h2 h3'] at h4 ⊢
    by_cases e : s = q
    · rw [if_pos e]
      exact ⟨by simp [s0], e⟩
    · rw [if_neg e] at h4; omega
  · have := hz j hj'; omega
  · rw [hz j hj, hw]
    exact Slx.nil (by simp)
theorem srch_BC {L s : Int} {fin : List Bool} {next : List (List Int)} (hv : valE L s fin next = 0) : BC next L s (srch s fin next) (srch s fin next).o.length 0 := by
  obtain ⟨v1, v2, v3, v4, v5, v6, v7, v8⟩ := valE_zero hv
  have := BC.start (next := next) (L := L) v6 v7
  exact BC.go v5 v2 v8 fin.length 0 _ rfl (SI.start v6 v7) (WI.start _ _) this.1 (fun _ => this.2)

theorem enc_chr {a : Int} (h0 : 0 ≤ a) (h1 : a < 6) : Utf8.encode (wrap32 (wrap64 (97 + a))) = chr a := by
  have e1 : wrap64 (97 + a) = 97 + a := wrap_in (by omega) (by omega)
  have e2 : wrap32 (97 + a) = 97 + a := by unfold wrap32; omega
  have e3 : (97 + a) % 256 = 97 + a := by omega
  have hv : Utf8.valid (97 + a) = true := by simp [Utf8.valid]; omega
  have hc : (if Utf8.valid (97 + a) = true then (97 + a).toNat else Utf8.runeError) < 128 := by rw [if_pos hv]; omega
  unfold chr
  rw [e1, e2, e3]
  unfold Utf8.encode
  simp only []
  rw [if_pos hc, if_pos hv]
  rfl
theorem dwords_l0 (S : SS) (hw : (wds S).length = S.o.length) (hf : S.f.length = S.o.length) (hl : S.l.length = S.o.length) (hn : S.o.length ≤ 512) (hz : ∀ w ∈ wds S, w.size < S.o.length)
    (hfb : ∀ j (h : j < S.f.length), 0 < j → 0 ≤ S.f[j] ∧ S.f[j] < (j : Int)) (hlb : ∀ j (h : j < S.l.length), 0 < j → 0 ≤ S.l[j] ∧ S.l[j] < 6)
    (hp : ∀ j : Nat, 0 < j → j < S.o.length → rdOf ByteArray.empty (wds S) (j : Int) = rdOf ByteArray.empty (wds S) (rd S.f (j : Int)) ++ chr (rd S.l (j : Int))) : ∀ (d i : Nat), S.o.length - i = d → 0 < i → i ≤ S.o.length →
    Ev (fun k => dfa_words.l0 k S.f S.l ((wds S).take i ++ (List.replicate S.o.length (⟨#[]⟩ : ByteArray)).drop i) (i : Int)) (wds S) := by
  intro d
  have hlen : ∀ i, ((wds S).take i ++ (List.replicate S.o.length (⟨#[]⟩ : ByteArray)).drop i).length = S.o.length := fun i => by rw [tk_len (by simp [hw])]; exact hw
  induction d with
  | zero =>
    intro i hd h0 hi
    refine Ev.step (fun _ => rfl) (ev_neg (by omega) ?_)
    rw [tk_all (by omega) (by simp [hw])]
    exact ev_some _
  | succ d ih =>
    intro i hd h0 hi
    have hlt : i < S.o.length := by omega
    have hl' := hlen i
    have h1 := hfb i (by omega) h0
    have h2 := hlb i (by omega) h0
    have h3 := hp i h0 hlt
    rw [rd_at S.f i (by omega), rd_at S.l i (by omega)] at h3
    obtain ⟨y, hy⟩ := Int.eq_ofNat_of_zero_le h1.1
    rw [hy] at h1 h3
    have hpre : rdOf ByteArray.empty ((wds S).take i ++ (List.replicate S.o.length (⟨#[]⟩ : ByteArray)).drop i) (y : Int) = rdOf ByteArray.empty (wds S) (y : Int) := by
      rw [rdOf_at _ _ y (by omega), rdOf_at _ _ y (by omega), List.getElem_append_left (by simp; omega), List.getElem_take]
    have hyz := hz _ (List.getElem_mem (show y < (wds S).length by omega))
    refine Ev.step (fun _ => rfl) (ev_pos (by omega) (ev_pos (by omega) ?_))
    rw [rd_at S.f i (by omega), rd_at S.l i (by omega), hy, hpre, enc_chr h2.1 h2.2]
    refine ev_pos (by omega) (ev_pos (by omega) (ev_pos (by omega) (ev_pos ?_ (ev_pos (by omega) ?_))))
    · rw [rdOf_at _ _ y (by omega), chr_size]
      omega
    · rw [← h3, rdOf_at _ _ i (by omega), Int.toNat_natCast, tk_set (by omega) (by simp [hw]), wrap_succ hlt (by omega)]
      exact ih (i + 1) (by omega) (by omega) (by omega)
theorem dwords_ev {L s : Int} {fin : List Bool} {next : List (List Int)} (hv : valE L s fin next = 0) : Ev (fun k => dfa_words.f k (srch s fin next).f (srch s fin next).l) (wds (srch s fin next)) := by
  obtain ⟨v1, v2, v3, v4, v5, v6, v7, v8⟩ := valE_zero hv
  have hS := SI.srch hv
  have hw := srch_WI hv
  have hb := srch_BC hv
  generalize srch s fin next = S at hS hw hb
  have hlt := hS.lt
  have hpos := hS.pos
  have hfl := hS.fl
  have h0 : (wds S)[0]'(by rw [hw.wl]; exact hpos) = ⟨#[]⟩ := by
    have := hb.w0
    unfold W at this
    rw [rdOf_at _ _ 0 (by rw [hw.wl]; exact hpos)] at this
    have e := str_of ((wds S)[0]'(by rw [hw.wl]; exact hpos))
    rw [this] at e
    exact e.symm
  have e : (wds S).take 1 ++ (List.replicate S.o.length (⟨#[]⟩ : ByteArray)).drop 1 = List.replicate S.f.length ⟨#[]⟩ := by
    rw [hfl]
    apply List.ext_getElem?
    intro i
    by_cases hi : i < S.o.length
    · rw [List.getElem?_eq_getElem (by rw [tk_len (by simp [hw.wl])]; rw [hw.wl]; exact hi), List.getElem?_eq_getElem (by simpa using hi), List.getElem_replicate]
      congr 1
      cases i with
      | zero => rw [List.getElem_append_left (by simp [hw.wl]; omega), List.getElem_take]; exact h0
      | succ i => rw [List.getElem_append_right (by simp; omega)]; simp
    · rw [List.getElem?_eq_none (by rw [tk_len (by simp [hw.wl])]; rw [hw.wl]; omega), List.getElem?_eq_none (by simp; omega)]
  refine ev_pos (by omega) (ev_pos (by omega) ?_)
  have := dwords_l0 S hw.wl hfl hS.ll (by omega) hw.wz hS.fb (fun j h hj => by have := hS.lb j h hj; omega) hb.par _ 1 rfl (by omega) hpos
  rw [e] at this
  exact this

theorem wv_l0 (w : ByteArray) (L : Int) (hw : w.size ≤ 2048) (hL : 1 ≤ L ∧ L ≤ 6) : ∀ (d i : Nat), w.size - i = d → i ≤ w.size →
    Ev (fun k => word_Valid.l0 k w L (i : Int)) ((List.range' i (w.size - i)).all (fun i : Nat => decide (97 ≤ bt w (i : Int) ∧ (bt w (i : Int) - 97) % 256 < L))) := by
  intro d
  induction d with
  | zero =>
    intro i hd hi
    exact Ev.step (fun _ => rfl) (ev_neg (by omega) (ev_eq (ev_some true) (by rw [hd]; rfl)))
  | succ d ih =>
    intro i hd hi
    have hlt : i < w.size := by omega
    rw [hd, List.range'_succ, List.all_cons]
    refine Ev.step (fun _ => rfl) (ev_pos (by omega) (ev_pos (by omega) ?_))
    by_cases h1 : bt w (i : Int) < 97
    · exact ev_pos h1 (ev_eq (ev_some false) (by rw [decide_eq_false (by omega), Bool.false_and]))
    · refine ev_neg h1 ?_
      by_cases h2 : (bt w (i : Int) - 97) % 256 ≥ L
      · exact ev_pos h2 (ev_eq (ev_some false) (by rw [decide_eq_false (by omega), Bool.false_and]))
      · refine ev_neg h2 ?_
        rw [wrap_succ hlt (by omega), decide_eq_true (show 97 ≤ bt w (i : Int) ∧ (bt w (i : Int) - 97) % 256 < L by omega), Bool.true_and]
        have := ih (i + 1) (by omega) (by omega)
        rwa [show w.size - (i + 1) = d by omega] at this
theorem wv_ev (w : ByteArray) (L : Int) : Ev (fun k => word_Valid.f k w L) (wvalid w L) := by
  have J : ∀ b : Bool, b = true → Ev (fun k => word_Valid.j0 k w L b) false := fun b e => Ev.step (fun _ => rfl) (ev_pos e (ev_some false))
  unfold wvalid
  by_cases h1 : L < 1
  · rw [show decide (1 ≤ L ∧ L ≤ 6 ∧ w.size ≤ 2048) = false from decide_eq_false (by omega), Bool.false_and]
    exact ev_pos h1 (J true rfl)
  refine ev_neg h1 ?_
  by_cases h2 : L > 6
  · rw [show decide (1 ≤ L ∧ L ≤ 6 ∧ w.size ≤ 2048) = false from decide_eq_false (by omega), Bool.false_and]
    exact ev_pos h2 (J true rfl)
  refine ev_neg h2 ?_
  by_cases h3 : w.size > 2048
  · rw [show decide (1 ≤ L ∧ L ≤ 6 ∧ w.size ≤ 2048) = false from decide_eq_false (by omega), Bool.false_and]
    exact J _ (decide_eq_true (by omega))
  · rw [show decide (1 ≤ L ∧ L ≤ 6 ∧ w.size ≤ 2048) = true from decide_eq_true (by omega), Bool.true_and]
    have K : ∀ b : Bool, b = false → Ev (fun k => word_Valid.j0 k w L b) (wok w L) := by
      intro b e
      refine Ev.step (fun _ => rfl) (ev_neg (by simp [e]) ?_)
      have := wv_l0 w L (by omega) (by omega) _ 0 rfl (by omega)
      rwa [Nat.sub_zero, ← List.range_eq_range'] at this
    exact K _ (decide_eq_false (by omega))

theorem u8_inj : ∀ {a b : List Int}, Byt a → Byt b → u8 a = u8 b → a = b
  | [], [], _, _, _ => rfl
  | [], _ :: _, _, _, h => by simp [u8] at h
  | _ :: _, [], _, _, h => by simp [u8] at h
  | x :: a, y :: b, ha, hb, h => by
    simp only [u8, List.map_cons, List.cons.injEq] at h
    have hx := ha x (by simp)
    have hy := hb y (by simp)
    have e := congrArg UInt8.toNat h.1
    rw [UInt8.toNat_ofNat', UInt8.toNat_ofNat'] at e
    rw [show x = y by omega, u8_inj (fun z hz => ha z (by simp [hz])) (fun z hz => hb z (by simp [hz])) h.2]
theorem Slx.tri {a b : List Int} (ha : Byt a) (hb : Byt b) : Slx a b ∨ a = b ∨ Slx b a := by
  rcases Nat.lt_trichotomy a.length b.length with h | h | h
  · exact .inl (.inl h)
  · by_cases h1 : Op.bytesLess (u8 a) (u8 b) = true
    · exact .inl (.inr ⟨h, h1⟩)
    · by_cases h2 : Op.bytesLess (u8 b) (u8 a) = true
      · exact .inr (.inr (.inr ⟨h.symm, h2⟩))
      · exact .inr (.inl (u8_inj ha hb (bl_eq (by simpa using h1) (by simpa using h2))))
  · exact .inr (.inr (.inl h))
theorem cmp_lt {a b : ByteArray} (h : Slx (bytesOf a) (bytesOf b)) : cmpW a b = -1 := by
  unfold Slx at h
  rw [bytesOf_length, bytesOf_length, ← toList_u8, ← toList_u8] at h
  unfold cmpW
  rcases h with h | ⟨h, k⟩
  · rw [if_pos h]
  · rw [if_neg (by omega), if_neg (by omega), if_pos k]
theorem wok_of {w : ByteArray} {L : Int} (hL : L ≤ 6) (h : Let (bytesOf w) L) : wok w L = true := by
  unfold wok
  rw [List.all_eq_true]
  intro i hi
  rw [List.mem_range] at hi
  have := h _ (List.getElem_mem (show i < (bytesOf w).length by rw [bytesOf_length]; exact hi))
  rw [bt_at w i hi, decide_eq_true_eq]
  omega
theorem of_wok {w : ByteArray} {L : Int} (hL : L ≤ 6) (h : wok w L = true) : bytesOf w = (lets w).map (97 + ·) := by
  apply List.ext_getElem
  · rw [List.length_map, lets_length, bytesOf_length]
  · intro i h1 h2
    have hi : i < w.size := by rw [bytesOf_length] at h1; exact h1
    have h3 := List.all_eq_true.1 h i (List.mem_range.2 hi)
    rw [decide_eq_true_eq] at h3
    rw [List.getElem_map, lets_at, ← bt_at w i hi]
    have := byt_of w _ (List.getElem_mem h1)
    rw [← bt_at w i hi] at this
    omega
theorem bfs_least {next : List (List Int)} {L s : Int} {S : SS} (hL : L ≤ 6) (h : BC next L s S S.o.length 0) (hp : 0 < S.o.length) : ∀ (m : Nat) (ls : List Int), ls.length = m → (∀ a ∈ ls, 0 ≤ a ∧ a < L) →
    ∃ j : Nat, j < S.o.length ∧ rd S.o (j : Int) = runs next s ls ∧ ¬ Slx (ls.map (97 + ·)) (W S j) := by
  intro m
  induction m with
  | zero =>
    intro ls hl _
    rw [List.length_eq_zero_iff] at hl
    subst hl
    exact ⟨0, hp, h.o0, by rw [h.w0]; exact fun hh => hh.irrefl⟩
  | succ m ih =>
    intro ls hl ha
    have hne : ls ≠ [] := by rintro rfl; simp at hl
    obtain ⟨ls', a, rfl⟩ : ∃ ls' a, ls = ls' ++ [a] := ⟨ls.dropLast, ls.getLast hne, (List.dropLast_concat_getLast hne).symm⟩
    have haa := ha a (by simp)
    obtain ⟨i, hi, h1, h2⟩ := ih ls' (by simpa using hl) (fun b hb => ha b (by simp [hb]))
    obtain ⟨c, rfl⟩ := Int.eq_ofNat_of_zero_le haa.1
    obtain ⟨j, hj, h3, h4⟩ := h.cmp i c hi haa.2 (.inl hi)
    refine ⟨j, hj, ?_, ?_⟩
    · rw [h3, h1]; simp [runs]
    · rw [List.map_append, List.map_cons, List.map_nil]
      intro hh
      have hb1 : Byt (ls'.map (97 + ·)) := by
        intro x hx
        obtain ⟨y, hy, rfl⟩ := List.mem_map.1 hx
        have := ha y (by simp [hy])
        omega
      rcases Slx.tri hb1 ((h.let' i hi).byt hL) with h5 | h5 | h5
      · exact h2 h5
      · rw [h5] at hh; exact h4 hh
      · exact h4 ((h5.app _ _).trans hh)
theorem letB_Let {xs : List Int} {L : Int} (hL : L ≤ 6) (h : Let xs L) : ∀ a ∈ letB xs, 0 ≤ a ∧ a < L := by
  intro a ha
  obtain ⟨b, hb, rfl⟩ := List.mem_map.1 ha
  have := h b hb
  omega

/-- The reachable part is valid, and its runs are those of the whole. -/
theorem trim_val {L s : Int} {fin : List Bool} {next : List (List Int)} (hv : valE L s fin next = 0) : valE L 0 (trimF fin (srch s fin next)) (trimN next (srch s fin next)) = 0 := by
  obtain ⟨v1, v2, v3, v4, v5, v6, v7, v8⟩ := valE_zero hv
  have hS := SI.srch hv
  have hb := srch_BC hv
  generalize srch s fin next = S at hS hb
  have hlt := hS.lt
  have hpos := hS.pos
  have hml := hS.ml
  have hF : (trimF fin S).length = S.o.length := by simp [trimF]
  have hN : (trimN next S).length = S.o.length := by simp [trimN]
  unfold valE
  rw [if_neg (by omega), if_neg (by omega), if_neg (by omega), if_pos]
  rw [List.all_eq_true]
  intro row hr
  simp only [trimN, List.mem_map] at hr
  obtain ⟨q, hq, rfl⟩ := hr
  obtain ⟨j, hj, rfl⟩ := List.getElem_of_mem hq
  have hqb := hS.ob _ hq
  obtain ⟨y, hy⟩ := Int.eq_ofNat_of_zero_le hqb.1
  have hr := v8 next[y] (List.getElem_mem (by omega))
  rw [hy, rdL_at next y (by omega)]
  simp only [okRow, Bool.and_eq_true, decide_eq_true_eq, List.length_map, List.all_eq_true, hF]
  refine ⟨hr.1, fun x hx => ?_⟩
  obtain ⟨z, hz, rfl⟩ := List.mem_map.1 hx
  obtain ⟨a, ha, rfl⟩ := List.getElem_of_mem hz
  obtain ⟨k, hk, h1, h2⟩ := hb.cmp j a hj (by omega) (.inl hj)
  rw [rd_at S.o j hj, hy] at h1
  unfold go1 at h1
  rw [rdL_at next y (by omega), rd_at _ a ha] at h1
  rw [← h1, hb.nm k hk]
  omega
theorem trim_go1 {L s : Int} {fin : List Bool} {next : List (List Int)} (hv : valE L s fin next = 0) (j : Nat) (hj : j < (srch s fin next).o.length) (a : Int) (h0 : 0 ≤ a) (h1 : a < L) :
    ∃ k : Nat, k < (srch s fin next).o.length ∧ go1 (trimN next (srch s fin next)) (j : Int) a = (k : Int) ∧ rd (srch s fin next).o (k : Int) = go1 next (rd (srch s fin next).o (j : Int)) a := by
  obtain ⟨v1, v2, v3, v4, v5, v6, v7, v8⟩ := valE_zero hv
  have hS := SI.srch hv
  have hb := srch_BC hv
  generalize srch s fin next = S at hS hb hj
  have hlt := hS.lt
  have hqb := hS.ob _ (List.getElem_mem hj)
  obtain ⟨y, hy⟩ := Int.eq_ofNat_of_zero_le hqb.1
  obtain ⟨c, rfl⟩ := Int.eq_ofNat_of_zero_le h0
  have hr := v8 next[y] (List.getElem_mem (by omega))
  obtain ⟨k, hk, h3, _⟩ := hb.cmp j c hj h1 (.inl hj)
  refine ⟨k, hk, ?_, h3⟩
  have hc : c < next[y].length := by omega
  have e : rd_L1 (trimN next S) (j : Int) = next[y].map (rd S.m) := by
    rw [rdL_at _ j (by simpa [trimN] using hj)]
    simp only [trimN, List.getElem_map]
    rw [hy, rdL_at next y (by omega)]
  unfold go1
  rw [e, rd_at _ c (by simpa using hc), List.getElem_map, ← hb.nm k hk, h3, rd_at S.o j hj, hy]
  unfold go1
  rw [rdL_at next y (by omega), rd_at _ c hc]
theorem trim_runs {L s : Int} {fin : List Bool} {next : List (List Int)} (hv : valE L s fin next = 0) : ∀ (ls : List Int) (j : Nat), j < (srch s fin next).o.length → (∀ a ∈ ls, 0 ≤ a ∧ a < L) →
    ∃ k : Nat, k < (srch s fin next).o.length ∧ runs (trimN next (srch s fin next)) (j : Int) ls = (k : Int) ∧ rd (srch s fin next).o (k : Int) = runs next (rd (srch s fin next).o (j : Int)) ls
  | [], j, hj, _ => ⟨j, hj, rfl, rfl⟩
  | a :: ls, j, hj, h => by
    have ha := h a (by simp)
    obtain ⟨k, hk, h1, h2⟩ := trim_go1 hv j hj a ha.1 ha.2
    obtain ⟨k', hk', h3, h4⟩ := trim_runs hv ls k hk (fun b hb => h b (List.mem_cons_of_mem _ hb))
    refine ⟨k', hk', ?_, ?_⟩
    · show runs _ (go1 _ _ _) ls = _
      rw [h1]; exact h3
    · rw [h4, h2]; rfl
/-- In the reachable part, the least words lead to their states. -/
theorem trim_word {L s : Int} {fin : List Bool} {next : List (List Int)} (hv : valE L s fin next = 0) (j : Nat) (hj : j < (srch s fin next).o.length) : runs (trimN next (srch s fin next)) 0 (letB (W (srch s fin next) j)) = (j : Int) := by
  have hb := srch_BC hv
  have hS := SI.srch hv
  obtain ⟨v1, v2, v3, v4, v5, v6, v7, v8⟩ := valE_zero hv
  obtain ⟨k, hk, h1, h2⟩ := trim_runs hv (letB (W (srch s fin next) j)) 0 hS.pos (letB_Let v2 (hb.let' j hj))
  have e : rd (srch s fin next).o ((0 : Nat) : Int) = s := hb.o0
  rw [e, hb.run j hj] at h2
  rw [show ((0 : Nat) : Int) = 0 from rfl] at h1
  rw [h1, ← hb.nm k hk, h2, hb.nm j hj]
theorem trim_least {L s : Int} {fin : List Bool} {next : List (List Int)} (hv : valE L s fin next = 0) (ls : List Int) (hl : ∀ a ∈ ls, 0 ≤ a ∧ a < L) : ∃ j : Nat, j < (srch s fin next).o.length ∧ runs (trimN next (srch s fin next)) 0 ls = (j : Int) ∧ ¬ Slx (ls.map (97 + ·)) (W (srch s fin next) j) := by
  have hb := srch_BC hv
  have hS := SI.srch hv
  obtain ⟨v1, v2, v3, v4, v5, v6, v7, v8⟩ := valE_zero hv
  obtain ⟨j, hj, h1, h2⟩ := bfs_least v2 hb hS.pos _ ls rfl hl
  obtain ⟨k, hk, h3, h4⟩ := trim_runs hv ls 0 hS.pos hl
  have e : rd (srch s fin next).o ((0 : Nat) : Int) = s := hb.o0
  rw [e, ← h1] at h4
  have : (k : Int) = (j : Int) := by rw [← hb.nm k hk, h4, hb.nm j hj]
  exact ⟨j, hj, by rw [← this]; exact h3, h2⟩

theorem drun_l0 (L s : Int) (fin : List Bool) (next : List (List Int)) (w : ByteArray) (hw : w.size ≤ 2048) (hv : ∀ row ∈ next, (row.length : Int) = L ∧ ∀ q ∈ row, 0 ≤ q ∧ q < (next.length : Int)) (hok : wok w L = true) : ∀ (d i : Nat) (q : Int), w.size - i = d → i ≤ w.size → 0 ≤ q → q < (next.length : Int) →
    Ev (fun k => dfa_run.l0 k q w (i : Int) L s fin next) (runs next q ((lets w).drop i)) := by
  have hll := lets_length w
  intro d
  induction d with
  | zero =>
    intro i q hd hi h0 h1
    rw [List.drop_eq_nil_of_le (by omega)]
    exact Ev.step (fun _ => rfl) (ev_neg (by omega) (ev_some q))
  | succ d ih =>
    intro i q hd hi h0 h1
    have hlt : i < (lets w).length := by omega
    rw [List.drop_eq_getElem_cons hlt]
    have ha := lets_ok hok _ (List.getElem_mem hlt)
    rw [lets_at] at ha ⊢
    have hg := go1_ok hv h0 h1 ha.1 ha.2
    refine Ev.step (fun _ => rfl) (ev_pos (by omega) (ev_pos h0 (ev_pos h1 (ev_pos (by omega) (ev_pos ha.1 (ev_pos (by omega) ?_))))))
    rw [wrap_succ (show i < w.size by omega) (by omega)]
    exact ih (i + 1) (go1 next q _) (by omega) (by omega) hg.2.1 hg.2.2
/-- Where a word leads, or -1. -/
def runE (L s : Int) (fin : List Bool) (next : List (List Int)) (q : Int) (w : ByteArray) : Int :=
  if valE L s fin next = 0 ∧ 0 ≤ q ∧ q < (fin.length : Int) ∧ wvalid w L = true then runs next q (lets w) else -1
theorem runE_ok {L s : Int} {fin : List Bool} {next : List (List Int)} {q : Int} {w : ByteArray} : runE L s fin next q w = -1 ∨ 0 ≤ runE L s fin next q w ∧ runE L s fin next q w < (fin.length : Int) := by
  unfold runE
  split
  · rename_i h
    obtain ⟨v1, v2, v3, v4, v5, v6, v7, v8⟩ := valE_zero h.1
    have h4 := h.2.2.2
    unfold wvalid at h4
    rw [Bool.and_eq_true] at h4
    have := runs_ok (L := L) (next := next) (fun row hr => by rw [v5]; exact v8 row hr) (lets w) q h.2.1 (by omega) (lets_ok h4.2)
    omega
  · exact .inl rfl
theorem dRun_ev (L s : Int) (fin : List Bool) (next : List (List Int)) (q : Int) (w : ByteArray) : Ev (fun k => dfa_Run.f k L s fin next q w) (runE L s fin next q w) := by
  have J : ∀ b : Bool, b = true → Ev (fun k => dfa_Run.j0 k q w b L s fin next) (-1) := fun b e => Ev.step (fun _ => rfl) (ev_pos e (ev_some (-1)))
  refine ev_bind (dval_ev _ _ _ _) ?_
  unfold runE
  by_cases hv : valE L s fin next = 0
  · refine ev_pos hv ?_
    by_cases h1 : q < 0
    · rw [if_neg (by omega)]
      exact ev_pos h1 (J true rfl)
    refine ev_neg h1 ?_
    by_cases h2 : q ≥ (fin.length : Int)
    · rw [if_neg (by omega)]
      exact ev_pos h2 (J true rfl)
    refine ev_neg h2 (ev_bind (wv_ev w L) ?_)
    by_cases h3 : wvalid w L = true
    · rw [if_pos ⟨hv, by omega, by omega, h3⟩]
      obtain ⟨v1, v2, v3, v4, v5, v6, v7, v8⟩ := valE_zero hv
      have h4 := h3
      unfold wvalid at h4
      rw [Bool.and_eq_true, decide_eq_true_eq] at h4
      have K : ∀ b : Bool, b = false → Ev (fun k => dfa_Run.j0 k q w b L s fin next) (runs next q (lets w)) := by
        intro b e
        refine Ev.step (fun _ => rfl) (ev_neg (by simp [e]) (ev_bind ?_ (ev_some _)))
        have := drun_l0 L s fin next w h4.1.2.2 (fun row hr => by rw [v5]; exact v8 row hr) h4.2 _ 0 q rfl (by omega) (by omega) (by omega)
        rwa [List.drop_zero] at this
      exact K _ (by rw [h3]; rfl)
    · rw [if_neg (fun h => h3 h.2.2.2)]
      exact J _ (by rw [Bool.not_eq_true] at h3; rw [h3]; rfl)
  · rw [if_neg (fun h => hv h.1)]
    exact ev_neg hv (J true rfl)

theorem refwcompare_ev (a b : ByteArray) : Ev (fun k => semigroupref01_Compare.f k a b) (cmpW a b) := by
  by_cases h1 : (a.size : Int) < b.size
  · exact ev_pos h1 (Ev.step (fun _ => by simp only [semigroupref01_Compare.j0]; rfl) (ev_pos (Eq.refl true) (ev_eq (ev_some _) (by rw [cmpW, if_pos (by omega)]))))
  · refine ev_neg h1 ?_
    by_cases h : (a.size : Int) = b.size
    · refine ev_pos h (Ev.step (fun _ => by simp only [semigroupref01_Compare.j0]; rfl) ?_)
      by_cases h1 : Op.bytesLess a.toList b.toList = true
      · exact ev_pos h1 (ev_eq (ev_some _) (by rw [cmpW, if_neg (by omega), if_neg (by omega), if_pos h1]))
      · refine ev_neg h1 ?_
        by_cases h2 : Op.bytesLess b.toList a.toList = true
        · refine ev_neg ?_ (ev_eq (ev_some _) (by rw [cmpW, if_neg (by omega), if_neg (by omega), if_neg h1, if_pos h2]))
          intro e
          rw [e, bl_irrefl] at h2
          cases h2
        · exact ev_pos (bl_eq (by simpa using h1) (by simpa using h2)) (ev_eq (ev_some _) (by rw [cmpW, if_neg (by omega), if_neg (by omega), if_neg h1, if_neg h2]))
    · refine ev_neg h (Ev.step (fun _ => by simp only [semigroupref01_Compare.j0]; rfl) (ev_neg (by simp) (ev_neg ?_ (ev_eq (ev_some _) (by rw [cmpW, if_neg (by omega), if_pos (by omega)])))))
      intro e
      have := congrArg List.length e
      rw [toList_len, toList_len] at this
      omega

theorem reaches_l0 (L : Int) (hL : 1 ≤ L ∧ L ≤ 6) (n : Nat) (hn : n ≤ 512) (tf : List Bool) (tn : List (List Int)) (hv : valE L 0 tf tn = 0) (htf : tf.length = n) (ws : List ByteArray) (hw : ws.length = n)
    (hs : ∀ j (h : j < ws.length), ws[j].size < n) (hlet : ∀ j (h : j < ws.length), Let (bytesOf ws[j]) L) (hrun : ∀ j (h : j < ws.length), runs tn 0 (letB (bytesOf ws[j])) = (j : Int))
    (hasc : ∀ j k (h : k < ws.length) (hjk : j < k), Slx (bytesOf (ws[j]'(by omega))) (bytesOf ws[k])) (x1 : ByteArray) (r : Bool) (h : Ev (fun k => (dfa_Run.f k L 0 tf tn 0 x1).bind fun t301 => (if t301 ≥ 0 then (if t301 ≥ (ws.length : Int) then (semigrouplaw07_DfaReaches.j2 k true) else (if 0 ≤ t301 then (if t301 < (ws.length : Int) then ((semigroupref01_Compare.f k (rdOf ByteArray.empty ws t301) x1).bind fun t303 => (semigrouplaw07_DfaReaches.j2 k (decide (t303 > 0)))) else (none)) else (none))) else (semigrouplaw07_DfaReaches.j2 k false))) r) : ∀ (d i : Nat), n - i = d → i ≤ n →
    Ev (fun k => semigrouplaw07_DfaReaches.l0 k x1 ws ws (ws.length : Int) (i : Int) L 0 tf tn) r := by
  intro d
  induction d with
  | zero =>
    intro i hd hi
    exact Ev.step (fun _ => rfl) (ev_neg (by omega) h)
  | succ d ih =>
    intro i hd hi
    have hlt : i < ws.length := by omega
    have hle := hlet i hlt
    have hsz := hs i hlt
    have hr : runE L 0 tf tn 0 ws[i] = (i : Int) := by
      have hc : wvalid ws[i] L = true := by
        unfold wvalid
        rw [wok_of hL.2 hle, Bool.and_true, decide_eq_true_eq]
        omega
      unfold runE
      rw [if_pos ⟨hv, by omega, by omega, hc⟩, lets_eq]
      exact hrun i hlt
    refine Ev.step (fun _ => rfl) (ev_pos (by omega) (ev_pos (by omega) (ev_pos (by omega) ?_)))
    rw [rdOf_at _ ws i hlt]
    refine ev_bind (dRun_ev _ _ _ _ _ _) (ev_pos hr ?_)
    rw [wrap_succ hlt (by omega)]
    by_cases h0 : (i : Int) > 0
    · have e1 : wrap64 ((i : Int) - 1) = ((i - 1 : Nat) : Int) := by rw [wrap_in (by omega) (by omega)]; omega
      refine ev_pos h0 ?_
      rw [e1]
      refine ev_pos (by omega) (ev_pos (by omega) ?_)
      rw [rdOf_at _ ws (i - 1) (by omega)]
      refine ev_bind (refwcompare_ev _ _) ?_
      rw [cmp_lt (hasc (i - 1) i hlt (by omega))]
      exact ev_neg (by omega) (ih (i + 1) (by omega) (by omega))
    · exact ev_neg h0 (ih (i + 1) (by omega) (by omega))
theorem DfaReaches : semigrouplaw07_DfaReaches.Pure := by
  intro x w hx hw
  have A : Ev (fun k => (semigrouplaw07_awake.f k).bind fun t => some t) true := ev_bind awake_ev (ev_some true)
  refine Ev.rounds (ev_bind (a := if valE x.f0 x.f1 x.f2 x.f3 = 0 then wds (srch x.f1 x.f2 x.f3) else []) ?_ (ev_bind (valid_ev _ _ _ _) ?_))
  · refine ev_bind (dval_ev _ _ _ _) ?_
    by_cases hv : valE x.f0 x.f1 x.f2 x.f3 = 0
    · rw [if_pos hv]
      exact ev_pos hv (ev_bind (dsearch_ev _ _ _ _ hv) (ev_bind (dwords_ev hv) (ev_some _)))
    · rw [if_neg hv]
      exact ev_neg hv (ev_some _)
  by_cases hv : valE x.f0 x.f1 x.f2 x.f3 = 0
  · rw [if_pos hv]
    obtain ⟨v1, v2, v3, v4, v5, v6, v7, v8⟩ := valE_zero hv
    have hS := SI.srch hv
    have hB := srch_BC hv
    have hW := srch_WI hv
    have hlt := hS.lt
    refine ev_pos (by simp [hv]) (ev_bind (dtrim_ev _ _ _ _) ?_)
    rw [if_pos hv]
    have hF : (trimF x.f2 (srch x.f1 x.f2 x.f3)).length = (srch x.f1 x.f2 x.f3).o.length := by simp [trimF]
    refine ev_pos (by show ((wds _).length : Int) = ((trimF _ _).length : Int); rw [hF, hW.wl]) ?_
    have J2 : ∀ b : Bool, b = false → Ev (fun k => semigrouplaw07_DfaReaches.j2 k b) true := fun b e => Ev.step (fun _ => rfl) (ev_neg (by simp [e]) A)
    have J : ∀ b : Bool, b = false → Ev (fun k => semigrouplaw07_DfaReaches.j0 k w (wds (srch x.f1 x.f2 x.f3)) b x.f0 0 (trimF x.f2 (srch x.f1 x.f2 x.f3)) (trimN x.f3 (srch x.f1 x.f2 x.f3))) true := by
      intro b e
      have hWj : ∀ j (h : j < (wds (srch x.f1 x.f2 x.f3)).length), bytesOf (wds (srch x.f1 x.f2 x.f3))[j] = W (srch x.f1 x.f2 x.f3) j := fun j h => by unfold W; rw [rdOf_at _ _ j h]
      refine Ev.step (fun _ => rfl) (ev_neg (by simp [e]) ?_)
      refine reaches_l0 x.f0 ⟨v1, v2⟩ (srch x.f1 x.f2 x.f3).o.length (by omega) _ _ (trim_val hv) hF _ hW.wl (fun j h => hW.wz _ (List.getElem_mem h)) (fun j h => ?_) (fun j h => ?_) (fun j k h hjk => ?_) w true ?_ _ 0 rfl (by omega)
      · rw [hWj]; exact hB.let' j (by rw [← hW.wl]; exact h)
      · rw [hWj]; exact trim_word hv j (by rw [← hW.wl]; exact h)
      · rw [hWj, hWj]; exact hB.asc j k hjk (by rw [← hW.wl]; exact h)
      · refine ev_bind (dRun_ev _ _ _ _ _ _) ?_
        by_cases hq : runE x.f0 0 (trimF x.f2 (srch x.f1 x.f2 x.f3)) (trimN x.f3 (srch x.f1 x.f2 x.f3)) 0 w ≥ 0
        · have hok : wok w x.f0 = true ∧ runE x.f0 0 (trimF x.f2 (srch x.f1 x.f2 x.f3)) (trimN x.f3 (srch x.f1 x.f2 x.f3)) 0 w = runs (trimN x.f3 (srch x.f1 x.f2 x.f3)) 0 (lets w) := by
            unfold runE at hq ⊢
            split at hq
            · rename_i hc
              rw [if_pos hc]
              have := hc.2.2.2
              unfold wvalid at this
              rw [Bool.and_eq_true] at this
              exact ⟨this.2, rfl⟩
            · omega
          obtain ⟨j, hj, h1, h2⟩ := trim_least hv (lets w) (lets_ok hok.1)
          rw [h1] at hok
          have hjl : j < (wds (srch x.f1 x.f2 x.f3)).length := by rw [hW.wl]; exact hj
          refine ev_pos hq (ev_neg (by rw [hok.2]; omega) (ev_pos hq (ev_pos (by rw [hok.2]; omega) ?_)))
          rw [hok.2, rdOf_at _ _ j hjl]
          refine ev_bind (refwcompare_ev _ _) (J2 _ (decide_eq_false (fun hc => h2 ?_)))
          rw [← of_wok v2 hok.1, ← hWj j hjl]
          exact cmp_pos hc
        · exact ev_neg hq (J2 _ rfl)
    exact J _ (by simp)
  · rw [if_neg hv]
    exact ev_neg (by simp [hv]) (ev_pos rfl A)

end Go.Proofs.Ytpjbmgoagehjkaa.Pure
