/- Two ways to tell which automata accept infinitely many words agree, and an automaton that does not accepts no word of at least as many letters as it has states, and fewer than twice as many. -/
import Derived.Test.YtpjbmgoagehjkaaZDfaInfiniteQ
namespace Go.Proofs.Ytpjbmgoagehjkaa.Pure
open Go.RowKit Go.Proofs.Ytpjbmgoagehjkaa.PDfaInfinite Go.Proofs.YtpjbmgoagehjkaaW.PrintWords Go.Proofs.YtpjbmgoagehjkaaW.PrintLast Go.Proofs.YtpjbmgoagehjkaaH
set_option linter.unusedVariables false
set_option linter.unusedSimpArgs false

theorem ev_mono {α : Type} {f : Nat → Option α} {r : α} (K : Nat) (hm : ∀ k, LeO (f k) (f (k + 1))) (h : f K = some r) : Ev f r := by
  refine ⟨K, fun n hn => ?_⟩
  induction n with
  | zero => rw [show K = 0 from by omega] at h; exact h
  | succ n ih =>
    by_cases e : K = n + 1
    · rw [← e]; exact h
    · exact hm n _ (ih (by omega))

theorem words_odd : Ev (fun k => dfa_Words.f k 2 0 [false, true] [[1, 0], [0, 1]] 3) [⟨#[97]⟩, ⟨#[97, 98]⟩, ⟨#[98, 97]⟩] := by
  refine ev_mono 40 (fun k => dfa_Words.mono _ _ _ _ _ k) ?_
  kernel_rfl
theorem awake_ev : Ev (fun k => semigrouplaw07_awake.f k) true := by
  refine ev_bind0 rfl (ev_bind words_odd (ev_bind ?_ (ev_some true)))
  refine ev_mono 10 (fun k => semigroupref01_Same.mono _ _ k) ?_
  kernel_rfl

/-- A row of a valid automaton with n states and L letters. -/
def okRow (n L : Int) (row : List Int) : Bool := decide ((row.length : Int) = L) && row.all (fun q => decide (0 ≤ q ∧ q < n))
/-- What is wrong with an automaton. -/
def valE (L s : Int) (fin : List Bool) (next : List (List Int)) : Int :=
  if L < 1 ∨ L > 6 then 1 else if fin.length > 512 then 3 else if fin.length = 0 ∨ next.length ≠ fin.length ∨ s < 0 ∨ s ≥ (fin.length : Int) then 4
  else if next.all (okRow fin.length L) then 0 else 4
theorem rdL_at (l : List (List Int)) (i : Nat) (h : i < l.length) : rd_L1 l (i : Int) = l[i] := by simp [rd_L1, List.getD, h]
theorem dval_l1 (n L s : Int) (fin : List Bool) (next rows : List (List Int)) (len i : Int) (row : List Int) (hn : row.length ≤ 1000) (r : Int) : ∀ (d j : Nat), row.length - j = d → j ≤ row.length →
    ((row.drop j).all (fun q => decide (0 ≤ q ∧ q < n)) = true → Ev (fun k => dfa_Validate.l0 k n rows len (wrap64 (i + 1)) L s fin next) r) →
    (¬ (row.drop j).all (fun q => decide (0 ≤ q ∧ q < n)) = true → r = 4) →
    Ev (fun k => dfa_Validate.l1 k n rows len i row (row.length : Int) (j : Int) L s fin next) r := by
  intro d
  induction d with
  | zero =>
    intro j hd hj h h'
    exact Ev.step (fun _ => rfl) (ev_neg (by omega) (h (by rw [List.drop_eq_nil_of_le (by omega)]; rfl)))
  | succ d ih =>
    intro j hd hj h h'
    have hlt : j < row.length := by omega
    rw [List.drop_eq_getElem_cons hlt, List.all_cons] at h h'
    refine Ev.step (fun _ => rfl) (ev_pos (by omega) (ev_pos (by omega) (ev_pos (by omega) ?_)))
    rw [rd_at row j hlt]
    by_cases h1 : row[j] < 0
    · exact ev_pos h1 (ev_eq (ev_some 4) (h' (by rw [decide_eq_false (by omega)]; simp)).symm)
    · refine ev_neg h1 ?_
      by_cases h2 : row[j] ≥ n
      · exact ev_pos h2 (ev_eq (ev_some 4) (h' (by rw [decide_eq_false (by omega)]; simp)).symm)
      · refine ev_neg h2 ?_
        rw [wrap_succ hlt (by omega)]
        rw [decide_eq_true (show 0 ≤ row[j] ∧ row[j] < n by omega), Bool.true_and] at h h'
        exact ih (j + 1) (by omega) (by omega) h h'
theorem dval_l0 (n L s : Int) (hL : 0 ≤ L ∧ L ≤ 6) (fin : List Bool) (next rows : List (List Int)) (hr : rows.length ≤ 1000) : ∀ (d i : Nat), rows.length - i = d → i ≤ rows.length →
    Ev (fun k => dfa_Validate.l0 k n rows (rows.length : Int) (i : Int) L s fin next) (if (rows.drop i).all (okRow n L) then 0 else 4) := by
  intro d
  induction d with
  | zero =>
    intro i hd hi
    exact Ev.step (fun _ => rfl) (ev_neg (by omega) (ev_eq (ev_some 0) (by rw [List.drop_eq_nil_of_le (by omega)]; rfl)))
  | succ d ih =>
    intro i hd hi
    have hlt : i < rows.length := by omega
    rw [List.drop_eq_getElem_cons hlt, List.all_cons]
    refine Ev.step (fun _ => rfl) (ev_pos (by omega) (ev_pos (by omega) (ev_pos (by omega) ?_)))
    rw [rdL_at rows i hlt]
    by_cases h1 : (rows[i].length : Int) = L
    · refine ev_pos h1 (dval_l1 n L s fin next rows _ i rows[i] (by omega) _ _ 0 rfl (by omega) (fun h => ?_) (fun h => ?_))
      · rw [List.drop_zero] at h
        rw [wrap_succ hlt (by omega), show okRow n L rows[i] = true from by unfold okRow; rw [h, decide_eq_true h1]; rfl, Bool.true_and]
        exact ih (i + 1) (by omega) (by omega)
      · rw [List.drop_zero] at h
        rw [show okRow n L rows[i] = false from by unfold okRow; rw [Bool.not_eq_true] at h; rw [h, Bool.and_false], Bool.false_and]
        rfl
    · refine ev_neg h1 (ev_eq (ev_some 4) ?_)
      rw [show okRow n L rows[i] = false from by unfold okRow; rw [decide_eq_false h1, Bool.false_and], Bool.false_and]
      rfl
theorem dval_ev (L s : Int) (fin : List Bool) (next : List (List Int)) : Ev (fun k => dfa_Validate.f k L s fin next) (valE L s fin next) := by
  have J : ∀ b : Bool, b = decide (L < 1 ∨ L > 6) → Ev (fun k => dfa_Validate.j0 k (fin.length : Int) b L s fin next) (valE L s fin next) := by
    intro b e
    unfold valE
    by_cases h1 : L < 1 ∨ L > 6
    · rw [decide_eq_true h1] at e
      rw [if_pos h1]
      exact Ev.step (fun _ => rfl) (ev_pos e (ev_some 1))
    · rw [decide_eq_false h1] at e
      rw [if_neg h1]
      refine Ev.step (fun _ => rfl) (ev_neg (by simp [e]) ?_)
      by_cases h2 : fin.length > 512
      · rw [if_pos h2]
        exact ev_pos (by omega) (ev_some 3)
      · rw [if_neg h2]
        refine ev_neg (by omega) ?_
        by_cases h3 : fin.length = 0
        · rw [if_pos (.inl h3)]
          exact ev_pos (by omega) (ev_some 4)
        · refine ev_neg (by omega) ?_
          by_cases h4 : next.length = fin.length
          · refine ev_pos (by omega) ?_
            by_cases h5 : s < 0
            · rw [if_pos (.inr (.inr (.inl h5)))]
              exact ev_pos h5 (ev_some 4)
            · refine ev_neg h5 ?_
              by_cases h6 : s ≥ (fin.length : Int)
              · rw [if_pos (.inr (.inr (.inr h6)))]
                exact ev_pos h6 (ev_some 4)
              · rw [if_neg (by omega)]
                refine ev_neg h6 ?_
                have := dval_l0 (fin.length : Int) L s (by omega) fin next next (by omega) _ 0 rfl (by omega)
                rwa [List.drop_zero] at this
          · rw [if_pos (.inr (.inl h4))]
            exact ev_neg (by omega) (ev_some 4)
  by_cases h : L < 1
  · exact ev_pos h (J true (by rw [decide_eq_true (.inl h)]))
  · exact ev_neg h (J _ (by simp only [h, false_or]))

theorem rval_l1 (n L s : Int) (fin : List Bool) (next rows : List (List Int)) (len i : Int) (row : List Int) (hn : row.length ≤ 1000) (r : Int) : ∀ (d j : Nat), row.length - j = d → j ≤ row.length →
    ((row.drop j).all (fun q => decide (0 ≤ q ∧ q < n)) = true → Ev (fun k => semigroupref07_Validate.l0 k n rows len (wrap64 (i + 1)) L s fin next) r) →
    (¬ (row.drop j).all (fun q => decide (0 ≤ q ∧ q < n)) = true → r = 4) →
    Ev (fun k => semigroupref07_Validate.l1 k n rows len i row (row.length : Int) (j : Int) L s fin next) r := by
  intro d
  induction d with
  | zero =>
    intro j hd hj h h'
    exact Ev.step (fun _ => rfl) (ev_neg (by omega) (h (by rw [List.drop_eq_nil_of_le (by omega)]; rfl)))
  | succ d ih =>
    intro j hd hj h h'
    have hlt : j < row.length := by omega
    rw [List.drop_eq_getElem_cons hlt, List.all_cons] at h h'
    refine Ev.step (fun _ => rfl) (ev_pos (by omega) (ev_pos (by omega) (ev_pos (by omega) ?_)))
    rw [rd_at row j hlt]
    by_cases h1 : row[j] < 0
    · exact ev_pos h1 (ev_eq (ev_some 4) (h' (by rw [decide_eq_false (by omega)]; simp)).symm)
    · refine ev_neg h1 ?_
      by_cases h2 : row[j] ≥ n
      · exact ev_pos h2 (ev_eq (ev_some 4) (h' (by rw [decide_eq_false (by omega)]; simp)).symm)
      · refine ev_neg h2 ?_
        rw [wrap_succ hlt (by omega)]
        rw [decide_eq_true (show 0 ≤ row[j] ∧ row[j] < n by omega), Bool.true_and] at h h'
        exact ih (j + 1) (by omega) (by omega) h h'
theorem rval_l0 (n L s : Int) (hL : 0 ≤ L ∧ L ≤ 6) (fin : List Bool) (next rows : List (List Int)) (hr : rows.length ≤ 1000) : ∀ (d i : Nat), rows.length - i = d → i ≤ rows.length →
    Ev (fun k => semigroupref07_Validate.l0 k n rows (rows.length : Int) (i : Int) L s fin next) (if (rows.drop i).all (okRow n L) then 0 else 4) := by
  intro d
  induction d with
  | zero =>
    intro i hd hi
    exact Ev.step (fun _ => rfl) (ev_neg (by omega) (ev_eq (ev_some 0) (by rw [List.drop_eq_nil_of_le (by omega)]; rfl)))
  | succ d ih =>
    intro i hd hi
    have hlt : i < rows.length := by omega
    rw [List.drop_eq_getElem_cons hlt, List.all_cons]
    refine Ev.step (fun _ => rfl) (ev_pos (by omega) (ev_pos (by omega) (ev_pos (by omega) ?_)))
    rw [rdL_at rows i hlt]
    by_cases h1 : (rows[i].length : Int) = L
    · refine ev_pos h1 (rval_l1 n L s fin next rows _ i rows[i] (by omega) _ _ 0 rfl (by omega) (fun h => ?_) (fun h => ?_))
      · rw [List.drop_zero] at h
        rw [wrap_succ hlt (by omega), show okRow n L rows[i] = true from by unfold okRow; rw [h, decide_eq_true h1]; rfl, Bool.true_and]
        exact ih (i + 1) (by omega) (by omega)
      · rw [List.drop_zero] at h
        rw [show okRow n L rows[i] = false from by unfold okRow; rw [Bool.not_eq_true] at h; rw [h, Bool.and_false], Bool.false_and]
        rfl
    · refine ev_neg h1 (ev_eq (ev_some 4) ?_)
      rw [show okRow n L rows[i] = false from by unfold okRow; rw [decide_eq_false h1, Bool.false_and], Bool.false_and]
      rfl
theorem rval_ev (L s : Int) (fin : List Bool) (next : List (List Int)) : Ev (fun k => semigroupref07_Validate.f k L s fin next) (valE L s fin next) := by
  by_cases h1 : L < 1 ∨ L > 6
  · have hm : semigroupref01_MayLetters.f L = some false := by
      unfold semigroupref01_MayLetters.f
      by_cases h : L ≥ 1
      · rw [if_pos h, decide_eq_false (by omega)]
      · rw [if_neg h]
    refine ev_bind0 hm (ev_neg (by simp) (ev_eq (ev_some 1) ?_))
    unfold valE
    rw [if_pos h1]
  · have hm : semigroupref01_MayLetters.f L = some true := by
      unfold semigroupref01_MayLetters.f
      rw [if_pos (by omega), decide_eq_true (by omega)]
    refine ev_bind0 hm (ev_pos rfl ?_)
    unfold valE
    rw [if_neg h1]
    by_cases h2 : fin.length > 512
    · rw [if_pos h2]
      exact ev_pos (by omega) (ev_some 3)
    · rw [if_neg h2]
      refine ev_neg (by omega) ?_
      have J : ∀ b : Bool, b = decide (fin.length = 0 ∨ next.length ≠ fin.length ∨ s < 0 ∨ s ≥ (fin.length : Int)) → Ev (fun k => semigroupref07_Validate.j0 k (fin.length : Int) b L s fin next) (if fin.length = 0 ∨ next.length ≠ fin.length ∨ s < 0 ∨ s ≥ (fin.length : Int) then 4 else if next.all (okRow fin.length L) then 0 else 4) := by
        intro b e
        by_cases h3 : fin.length = 0 ∨ next.length ≠ fin.length ∨ s < 0 ∨ s ≥ (fin.length : Int)
        · rw [decide_eq_true h3] at e
          rw [if_pos h3]
          exact Ev.step (fun _ => rfl) (ev_pos e (ev_some 4))
        · rw [decide_eq_false h3] at e
          rw [if_neg h3]
          refine Ev.step (fun _ => rfl) (ev_neg (by simp [e]) ?_)
          have := rval_l0 (fin.length : Int) L s (by omega) fin next next (by omega) _ 0 rfl (by omega)
          rwa [List.drop_zero] at this
      by_cases h3 : fin.length = 0
      · exact ev_pos (by omega) (J true (decide_eq_true (.inl h3)).symm)
      · refine ev_neg (by omega) ?_
        by_cases h4 : next.length = fin.length
        · refine ev_pos (by omega) ?_
          by_cases h5 : s < 0
          · exact ev_pos h5 (J true (decide_eq_true (.inr (.inr (.inl h5)))).symm)
          · refine ev_neg h5 (J _ ?_)
            by_cases h6 : s ≥ (fin.length : Int)
            · rw [decide_eq_true h6, decide_eq_true (.inr (.inr (.inr h6)))]
            · rw [decide_eq_false h6, decide_eq_false (by omega)]
        · exact ev_neg (by omega) (J true (decide_eq_true (.inr (.inl h4))).symm)

theorem valid_ev (L s : Int) (fin : List Bool) (next : List (List Int)) : Ev (fun k => semigrouplaw07_valid.f k L s fin next) (valE L s fin next == 0) :=
  ev_bind (rval_ev _ _ _ _) (ev_some _)

theorem valE_zero {L s : Int} {fin : List Bool} {next : List (List Int)} (h : valE L s fin next = 0) :
    1 ≤ L ∧ L ≤ 6 ∧ 0 < fin.length ∧ fin.length ≤ 512 ∧ next.length = fin.length ∧ 0 ≤ s ∧ s < (fin.length : Int) ∧ ∀ row ∈ next, (row.length : Int) = L ∧ ∀ q ∈ row, 0 ≤ q ∧ q < (fin.length : Int) := by
  unfold valE at h
  by_cases h1 : L < 1 ∨ L > 6
  · rw [if_pos h1] at h; cases h
  rw [if_neg h1] at h
  by_cases h2 : fin.length > 512
  · rw [if_pos h2] at h; cases h
  rw [if_neg h2] at h
  by_cases h3 : fin.length = 0 ∨ next.length ≠ fin.length ∨ s < 0 ∨ s ≥ (fin.length : Int)
  · rw [if_pos h3] at h; cases h
  rw [if_neg h3] at h
  by_cases h4 : next.all (okRow fin.length L) = true
  · refine ⟨by omega, by omega, by omega, by omega, by omega, by omega, by omega, fun row hr => ?_⟩
    have h5 := List.all_eq_true.1 h4 row hr
    simp only [okRow, Bool.and_eq_true, decide_eq_true_eq, List.all_eq_true] at h5
    exact h5
  · rw [if_neg h4] at h; cases h
theorem valE_no {L s : Int} {fin : List Bool} {next : List (List Int)} : valE L s fin next = 0 ∨ valE L s fin next = 1 ∨ valE L s fin next = 3 ∨ valE L s fin next = 4 := by
  unfold valE
  repeat' split
  all_goals simp

/-- A search: the states in the order in which they are met, from where and by which letter, and their numbers. -/
structure SS where
  o : List Int
  f : List Int
  l : List Int
  m : List Int
def sk (i a : Int) (S : SS) (q : Int) : SS :=
  if rd S.m q < 0 then ⟨S.o ++ [q], S.f ++ [i], S.l ++ [a], S.m.set q.toNat (S.o.length : Int)⟩ else S
def srow (i : Int) : Nat → List Int → SS → SS
  | _, [], S => S
  | a, q :: row, S => srow i (a + 1) row (sk i (a : Int) S q)
def sgo (next : List (List Int)) : Nat → Nat → SS → SS
  | 0, _, S => S
  | d + 1, i, S => if i < S.o.length then sgo next d (i + 1) (srow (i : Int) 0 (rd_L1 next (rd S.o (i : Int))) S) else S
def s0 (n : Nat) (s : Int) : SS := ⟨[s], [-1], [-1], (List.replicate n (-1)).set s.toNat 0⟩
def srch (s : Int) (fin : List Bool) (next : List (List Int)) : SS := sgo next fin.length 0 (s0 fin.length s)
def plc : List Int → Nat → List Int → List Int
  | [], _, m => m
  | q :: o, i, m => plc o (i + 1) (m.set q.toNat (i : Int))
theorem plc_snoc (q : Int) : ∀ (o : List Int) (i : Nat) (m : List Int), plc (o ++ [q]) i m = (plc o i m).set q.toNat ((i + o.length : Nat) : Int)
  | [], i, m => rfl
  | p :: o, i, m => by
    show plc (o ++ [q]) (i + 1) _ = (plc o (i + 1) _).set q.toNat _
    rw [plc_snoc q o, show i + 1 + o.length = i + (p :: o).length from by simp; omega]
def ngc (m : List Int) : Nat := m.countP (fun x => decide (x < 0))
theorem ngc_set (m : List Int) (q v : Int) (h0 : 0 ≤ q) (h1 : q < (m.length : Int)) (hn : rd m q < 0) (hv : 0 ≤ v) : ngc (m.set q.toNat v) + 1 = ngc m := by
  obtain ⟨j, rfl⟩ : ∃ j : Nat, q = (j : Int) := ⟨q.toNat, by omega⟩
  have hj : j < m.length := by omega
  rw [rd_at m j hj] at hn
  unfold ngc
  rw [Int.toNat_natCast, List.countP_set hj]
  have hp : 0 < m.countP (fun x => decide (x < 0)) := List.countP_pos_iff.2 ⟨m[j], List.getElem_mem hj, by simpa using hn⟩
  simp only [hn, decide_true, if_true, show ¬ v < 0 by omega, decide_false]
  simp
  omega
structure SI (n : Nat) (L : Int) (S : SS) : Prop where
  ml : S.m.length = n
  ob : ∀ q ∈ S.o, 0 ≤ q ∧ q < (n : Int)
  cn : S.o.length + ngc S.m = n
  fl : S.f.length = S.o.length
  ll : S.l.length = S.o.length
  mp : S.m = plc S.o 0 (List.replicate n (-1))
  fb : ∀ j (h : j < S.f.length), 0 < j → 0 ≤ S.f[j] ∧ S.f[j] < (j : Int)
  lb : ∀ j (h : j < S.l.length), 0 < j → 0 ≤ S.l[j] ∧ S.l[j] < L
  pos : 0 < S.o.length
theorem SI.lt {n : Nat} {L : Int} {S : SS} (h : SI n L S) : S.o.length ≤ n := by have := h.cn; omega
theorem SI.start {n : Nat} {L s : Int} (h0 : 0 ≤ s) (h1 : s < (n : Int)) : SI n L (s0 n s) := by
  refine ⟨by simp [s0], fun q hq => ?_, ?_, rfl, rfl, rfl, fun j h hj => ?_, fun j h hj => ?_, by simp [s0]⟩
  · simp only [s0, List.mem_singleton] at hq
    omega
  · have := ngc_set (List.replicate n (-1)) s 0 h0 (by simpa using h1) (by
      obtain ⟨j, rfl⟩ : ∃ j : Nat, s = (j : Int) := ⟨s.toNat, by omega⟩
      rw [rd_at _ j (by simp; omega)]
      simp) (by omega)
    have h2 : ngc (List.replicate n (-1)) = n := by simp [ngc, List.countP_replicate]
    show 1 + ngc ((List.replicate n (-1)).set s.toNat 0) = n
    omega
  · simp [s0] at h; omega
  · simp [s0] at h; omega
theorem SI.step {n : Nat} {L : Int} {S : SS} (h : SI n L S) {i a q : Int} (hi : 0 ≤ i) (hi' : i < (S.o.length : Int)) (ha : 0 ≤ a ∧ a < L) (hq : 0 ≤ q ∧ q < (n : Int)) : SI n L (sk i a S q) := by
  unfold sk
  split
  · rename_i hn
    refine ⟨by simp [h.ml], fun p hp => ?_, ?_, ?_, ?_, ?_, ?_, ?_, ?_⟩
    · rcases List.mem_append.1 hp with hp | hp
      · exact h.ob p hp
      · rw [List.mem_singleton] at hp; omega
    · have := ngc_set S.m q (S.o.length : Int) hq.1 (by rw [h.ml]; exact hq.2) hn (by omega)
      have := h.cn
      show (S.o ++ [q]).length + ngc (S.m.set q.toNat _) = n
      rw [List.length_append, List.length_singleton]
      omega
    · show (S.f ++ [i]).length = (S.o ++ [q]).length
      rw [List.length_append, List.length_append, h.fl]; rfl
    · show (S.l ++ [a]).length = (S.o ++ [q]).length
      rw [List.length_append, List.length_append, h.ll]; rfl
    · show S.m.set q.toNat _ = plc (S.o ++ [q]) 0 _
      rw [plc_snoc, ← h.mp, Nat.zero_add]
    · intro j hj hp
      show 0 ≤ (S.f ++ [i])[j] ∧ (S.f ++ [i])[j] < (j : Int)
      by_cases e : j < S.f.length
      · rw [List.getElem_append_left e]; exact h.fb j e hp
      · simp only [List.length_append, List.length_singleton] at hj
        rw [List.getElem_append_right (by omega)]
        have := h.fl
        simp; omega
    · intro j hj hp
      show 0 ≤ (S.l ++ [a])[j] ∧ (S.l ++ [a])[j] < L
      by_cases e : j < S.l.length
      · rw [List.getElem_append_left e]; exact h.lb j e hp
      · simp only [List.length_append, List.length_singleton] at hj
        rw [List.getElem_append_right (by omega)]
        simp; omega
    · show 0 < (S.o ++ [q]).length
      simp
  · exact h
theorem sk_pre (i a : Int) (S : SS) (q : Int) : S.o <+: (sk i a S q).o := by
  unfold sk
  split
  · exact List.prefix_append _ _
  · exact List.prefix_refl _
theorem srow_pre (i : Int) : ∀ (row : List Int) (a : Nat) (S : SS), S.o <+: (srow i a row S).o
  | [], _, S => List.prefix_refl _
  | q :: row, a, S => (sk_pre i a S q).trans (srow_pre i row (a + 1) _)
theorem SI.row {n : Nat} {L : Int} {i : Int} : ∀ (row : List Int) (a : Nat) (S : SS), SI n L S → 0 ≤ i → i < (S.o.length : Int) → ((a + row.length : Nat) : Int) ≤ L → (∀ q ∈ row, 0 ≤ q ∧ q < (n : Int)) → SI n L (srow i a row S)
  | [], _, S, h, _, _, _, _ => h
  | q :: row, a, S, h, hi, hi', ha, hq => by
    have hp := (sk_pre i (a : Int) S q).length_le
    simp only [List.length_cons] at ha
    exact SI.row row (a + 1) _ (h.step hi hi' ⟨by omega, by omega⟩ (hq q (by simp))) hi (by omega) (by omega) (fun p hp => hq p (List.mem_cons_of_mem _ hp))
theorem rd_pre {l l' : List Int} (h : l <+: l') {i : Int} (h0 : 0 ≤ i) (h1 : i < (l.length : Int)) : rd l' i = rd l i := by
  obtain ⟨t, rfl⟩ := h
  obtain ⟨j, rfl⟩ : ∃ j : Nat, i = (j : Int) := ⟨i.toNat, by omega⟩
  have hj : j < l.length := by omega
  rw [rd_at _ j (by simp; omega), rd_at _ j hj, List.getElem_append_left hj]
theorem SI.go {n : Nat} {L : Int} {next : List (List Int)} (hn : next.length = n) (hv : ∀ row ∈ next, (row.length : Int) = L ∧ ∀ q ∈ row, 0 ≤ q ∧ q < (n : Int)) : ∀ (d i : Nat) (S : SS), SI n L S → SI n L (sgo next d i S) := by
  intro d
  induction d with
  | zero => intro i S h; exact h
  | succ d ih =>
    intro i S h
    unfold sgo
    split
    · rename_i hi
      refine ih (i + 1) _ ?_
      have hb := h.ob _ (List.getElem_mem hi)
      obtain ⟨q, hq⟩ : ∃ q : Nat, S.o[i] = (q : Int) := ⟨S.o[i].toNat, by omega⟩
      rw [rd_at S.o i hi, hq, rdL_at next q (by omega)]
      have hr := hv next[q] (List.getElem_mem _)
      exact SI.row _ 0 S h (by omega) (by omega) (by omega) hr.2
    · exact h
theorem SI.srch {L s : Int} {fin : List Bool} {next : List (List Int)} (h : valE L s fin next = 0) : SI fin.length L (srch s fin next) := by
  obtain ⟨v1, v2, v3, v4, v5, v6, v7, v8⟩ := valE_zero h
  exact SI.go v5 v8 _ _ _ (SI.start v6 v7)

def chr (a : Int) : ByteArray := strOfNums [(wrap64 (97 + a)) % 256]
theorem chr_size (a : Int) : (chr a).size = 1 := rfl
def wstep (ws : List ByteArray) (p : Int × Int) : List ByteArray := ws ++ [rdOf ByteArray.empty ws p.1 ++ chr p.2]
def wds (S : SS) : List ByteArray := (S.f.zip S.l).tail.foldl wstep [⟨#[]⟩]
def mt (m : List Int) : List Bool := m.map (fun x => decide (0 ≤ x))
structure WI (S : SS) : Prop where
  wl : (wds S).length = S.o.length
  wz : ∀ w ∈ wds S, w.size < S.o.length
theorem rdOf_at {α : Type} (d : α) (l : List α) (i : Nat) (h : i < l.length) : rdOf d l (i : Int) = l[i] := by simp [rdOf, List.getD, h]
theorem rdOf_pre {α : Type} (d : α) {l l' : List α} (h : l <+: l') {i : Int} (h0 : 0 ≤ i) (h1 : i < (l.length : Int)) : rdOf d l' i = rdOf d l i := by
  obtain ⟨t, rfl⟩ := h
  obtain ⟨j, rfl⟩ : ∃ j : Nat, i = (j : Int) := ⟨i.toNat, by omega⟩
  have hj : j < l.length := by omega
  rw [rdOf_at d _ j (by simp; omega), rdOf_at d _ j hj, List.getElem_append_left hj]
theorem wds_snoc {n : Nat} {L : Int} {S : SS} (h : SI n L S) (i a q : Int) (hn : rd S.m q < 0) : wds (sk i a S q) = wds S ++ [rdOf ByteArray.empty (wds S) i ++ chr a] := by
  unfold sk wds
  rw [if_pos hn]
  show ((S.f ++ [i]).zip (S.l ++ [a])).tail.foldl wstep _ = _
  rw [List.zip_append (by rw [h.fl, h.ll])]
  have hp := h.pos
  rw [List.tail_append_of_ne_nil (by
    intro e
    have := congrArg List.length e
    simp [h.fl, h.ll] at this
    rw [this] at hp
    simp at hp), List.foldl_append]
  rfl
theorem size_append (a b : ByteArray) : (a ++ b).size = a.size + b.size := by simp
theorem WI.step {n : Nat} {L : Int} {S : SS} (h : SI n L S) (w : WI S) (i a q : Int) (hi : 0 ≤ i) (hi' : i < (S.o.length : Int)) : WI (sk i a S q) := by
  by_cases hn : rd S.m q < 0
  · have e := wds_snoc h i a q hn
    have eo : (sk i a S q).o = S.o ++ [q] := by unfold sk; rw [if_pos hn]
    refine ⟨by rw [e, eo]; simp [w.wl], fun x hx => ?_⟩
    rw [e] at hx
    rw [eo, List.length_append, List.length_singleton]
    rcases List.mem_append.1 hx with hx | hx
    · have := w.wz x hx; omega
    · rw [List.mem_singleton] at hx
      obtain ⟨j, rfl⟩ : ∃ j : Nat, i = (j : Int) := ⟨i.toNat, by omega⟩
      have hj : j < (wds S).length := by rw [w.wl]; omega
      have := w.wz _ (List.getElem_mem hj)
      rw [hx, size_append, chr_size, rdOf_at _ _ j hj]
      omega
  · have e : sk i a S q = S := by unfold sk; rw [if_neg hn]
    rw [e]; exact w
theorem WI.row {n : Nat} {L : Int} {i : Int} : ∀ (row : List Int) (a : Nat) (S : SS), SI n L S → WI S → 0 ≤ i → i < (S.o.length : Int) → ((a + row.length : Nat) : Int) ≤ L → (∀ q ∈ row, 0 ≤ q ∧ q < (n : Int)) → WI (srow i a row S)
  | [], _, S, _, w, _, _, _, _ => w
  | q :: row, a, S, h, w, hi, hi', ha, hq => by
    have hp := (sk_pre i (a : Int) S q).length_le
    simp only [List.length_cons] at ha
    exact WI.row row (a + 1) _ (h.step hi hi' ⟨by omega, by omega⟩ (hq q (by simp))) (w.step h i _ q hi hi') hi (by omega) (by omega) (fun p hp => hq p (List.mem_cons_of_mem _ hp))
theorem WI.start (n : Nat) (s : Int) : WI (s0 n s) := ⟨rfl, fun w hw => by
  have : w = ⟨#[]⟩ := by simpa [wds, s0] using hw
  subst this
  show 0 < 1
  omega⟩
theorem mt_set (m : List Int) (q v : Int) (hv : 0 ≤ v) : mt (m.set q.toNat v) = (mt m).set q.toNat true := by
  unfold mt
  rw [List.map_set, decide_eq_true hv]
theorem mt_at {m : List Int} {q : Int} (h0 : 0 ≤ q) (h1 : q < (m.length : Int)) : rdOf false (mt m) q = decide (0 ≤ rd m q) := by
  obtain ⟨j, rfl⟩ : ∃ j : Nat, q = (j : Int) := ⟨q.toNat, by omega⟩
  have hj : j < m.length := by omega
  rw [rdOf_at _ _ j (by simp [mt]; omega), rd_at m j hj]
  simp [mt]
theorem WI.go {n : Nat} {L : Int} {next : List (List Int)} (hn : next.length = n) (hv : ∀ row ∈ next, (row.length : Int) = L ∧ ∀ q ∈ row, 0 ≤ q ∧ q < (n : Int)) : ∀ (d i : Nat) (S : SS), SI n L S → WI S → WI (sgo next d i S) := by
  intro d
  induction d with
  | zero => intro i S h w; exact w
  | succ d ih =>
    intro i S h w
    unfold sgo
    split
    · rename_i hi
      have hb := h.ob _ (List.getElem_mem hi)
      obtain ⟨q, hq⟩ : ∃ q : Nat, S.o[i] = (q : Int) := ⟨S.o[i].toNat, by omega⟩
      rw [rd_at S.o i hi, hq, rdL_at next q (by omega)]
      have hr := hv next[q] (List.getElem_mem _)
      exact ih (i + 1) _ (SI.row (i := (i : Int)) _ 0 S h (by omega) (by omega) (by omega) hr.2) (WI.row (i := (i : Int)) _ 0 S h w (by omega) (by omega) (by omega) hr.2)
    · exact w
theorem srch_WI {L s : Int} {fin : List Bool} {next : List (List Int)} (hv : valE L s fin next = 0) : WI (srch s fin next) := by
  obtain ⟨v1, v2, v3, v4, v5, v6, v7, v8⟩ := valE_zero hv
  exact WI.go v5 v8 _ _ _ (SI.start v6 v7) (WI.start _ _)

/-- A word's letters. -/
def lets (w : ByteArray) : List Int := (List.range w.size).map (fun i : Nat => (bt w (i : Int) - 97) % 256)
def wok (w : ByteArray) (L : Int) : Bool := (List.range w.size).all (fun i : Nat => decide (97 ≤ bt w (i : Int) ∧ (bt w (i : Int) - 97) % 256 < L))
def wvalid (w : ByteArray) (L : Int) : Bool := decide (1 ≤ L ∧ L ≤ 6 ∧ w.size ≤ 2048) && wok w L
def go1 (next : List (List Int)) (q a : Int) : Int := rd (rd_L1 next q) a
def runs (next : List (List Int)) (q : Int) (ls : List Int) : Int := ls.foldl (go1 next) q
theorem lets_length (w : ByteArray) : (lets w).length = w.size := by simp [lets]
theorem lets_at (w : ByteArray) (i : Nat) (h : i < (lets w).length) : (lets w)[i] = (bt w (i : Int) - 97) % 256 := by simp [lets]
theorem lets_ok {w : ByteArray} {L : Int} (h : wok w L = true) : ∀ a ∈ lets w, 0 ≤ a ∧ a < L := by
  intro a ha
  simp only [lets, List.mem_map, List.mem_range] at ha
  obtain ⟨i, hi, rfl⟩ := ha
  have := List.all_eq_true.1 h i (List.mem_range.2 hi)
  simp only [decide_eq_true_eq] at this
  exact ⟨by omega, this.2⟩

theorem go1_ok {next : List (List Int)} {L n : Int} (hv : ∀ row ∈ next, (row.length : Int) = L ∧ ∀ q ∈ row, 0 ≤ q ∧ q < n) {q a : Int} (h0 : 0 ≤ q) (h1 : q < (next.length : Int)) (a0 : 0 ≤ a) (a1 : a < L) : ((rd_L1 next q).length : Int) = L ∧ 0 ≤ go1 next q a ∧ go1 next q a < n := by
  obtain ⟨m, rfl⟩ : ∃ m : Nat, q = (m : Int) := ⟨q.toNat, by omega⟩
  obtain ⟨c, rfl⟩ : ∃ c : Nat, a = (c : Int) := ⟨a.toNat, by omega⟩
  have hm : m < next.length := by omega
  unfold go1
  rw [rdL_at next m hm]
  obtain ⟨h2, h3⟩ := hv next[m] (List.getElem_mem hm)
  have hc : c < next[m].length := by omega
  rw [rd_at _ c hc]
  exact ⟨h2, h3 _ (List.getElem_mem hc)⟩
theorem runs_ok {next : List (List Int)} {L : Int} (hv : ∀ row ∈ next, (row.length : Int) = L ∧ ∀ q ∈ row, 0 ≤ q ∧ q < (next.length : Int)) : ∀ (ls : List Int) (q : Int), 0 ≤ q → q < (next.length : Int) → (∀ a ∈ ls, 0 ≤ a ∧ a < L) → 0 ≤ runs next q ls ∧ runs next q ls < (next.length : Int)
  | [], q, h0, h1, _ => ⟨h0, h1⟩
  | a :: ls, q, h0, h1, h => by
    have ha := h a (by simp)
    have hg := (go1_ok hv h0 h1 ha.1 ha.2).2
    exact runs_ok hv ls (go1 next q a) hg.1 hg.2 (fun b hb => h b (List.mem_cons_of_mem _ hb))

/-- Numbers that are bytes. -/
def Byt (xs : List Int) : Prop := ∀ x ∈ xs, 0 ≤ x ∧ x < 256
theorem byt_of (s : ByteArray) : Byt (bytesOf s) := by
  intro x hx
  obtain ⟨b, _, rfl⟩ := List.mem_map.1 hx
  have := b.toNat_lt
  omega
theorem of_str {xs : List Int} (h : Byt xs) : bytesOf (strOfNums xs) = xs := by
  rw [bytesOf, strOfNums_data, List.map_map]
  refine (List.map_congr_left (fun x hx => ?_)).trans (List.map_id _)
  have := h x hx
  simp only [Function.comp, UInt8.toNat_ofNat', id]
  omega
theorem str_of (s : ByteArray) : strOfNums (bytesOf s) = s := by
  have h : (strOfNums (bytesOf s)).data.toList = s.data.toList := by
    rw [strOfNums_data, bytesOf, List.map_map]
    refine (List.map_congr_left (fun x hx => ?_)).trans (List.map_id _)
    simp
  cases s
  exact congrArg ByteArray.mk (Array.toList_inj.1 h)
theorem of_inj {a b : ByteArray} (h : bytesOf a = bytesOf b) : a = b := by rw [← str_of a, h, str_of]
theorem toList_inj {a b : ByteArray} : a.toList = b.toList ↔ a = b := by
  refine ⟨fun h => ?_, fun h => by rw [h]⟩
  rw [ByteArray.toList_eq, ByteArray.toList_eq] at h
  cases a
  cases b
  exact congrArg ByteArray.mk (Array.toList_inj.1 h)
theorem str_eq {xs : List Int} (h : Byt xs) (s : ByteArray) : ((strOfNums xs).toList == s.toList) = decide (xs = bytesOf s) := by
  rw [Bool.eq_iff_iff, beq_iff_eq, decide_eq_true_eq, toList_inj]
  exact ⟨fun e => by rw [← e, of_str h], fun e => by rw [e, str_of]⟩
theorem bt_at (s : ByteArray) (i : Nat) (h : i < s.size) : bt s i = (bytesOf s)[i]'(by rw [bytesOf_length]; exact h) := by
  rw [bt, dif_pos (by simpa using h)]
  simp [bytesOf]
  rfl
/-- The letters of a word. -/
def Let (xs : List Int) (n : Int) : Prop := ∀ x ∈ xs, 97 ≤ x ∧ x < 97 + n
theorem Let.byt {xs : List Int} {n : Int} (h : Let xs n) (hn : n ≤ 6) : Byt xs := fun x hx => by have := h x hx; omega

/-- Shortlex order of two words: less, equal, greater. -/
def cmpW (a b : ByteArray) : Int := if a.size < b.size then -1 else if b.size < a.size then 1 else if Op.bytesLess a.toList b.toList = true then -1 else if Op.bytesLess b.toList a.toList = true then 1 else 0
theorem toList_len (a : ByteArray) : a.toList.length = a.size := by
  rw [ByteArray.toList_eq]; rfl

def u8 (xs : List Int) : List UInt8 := xs.map fun n => UInt8.ofNat n.toNat
theorem str_toList (xs : List Int) : (strOfNums xs).toList = u8 xs := by rw [ByteArray.toList_eq, strOfNums_data]; rfl
theorem toList_u8 (s : ByteArray) : s.toList = u8 (bytesOf s) := by rw [← str_toList, str_of]
theorem bl_trans : ∀ {a b c : List UInt8}, Op.bytesLess a b = true → Op.bytesLess b c = true → Op.bytesLess a c = true
  | [], [], _, h, _ => by simp [Op.bytesLess] at h
  | [], _ :: _, [], _, h => by simp [Op.bytesLess] at h
  | [], _ :: _, _ :: _, _, _ => rfl
  | _ :: _, [], _, h, _ => by simp [Op.bytesLess] at h
  | _ :: _, _ :: _, [], _, h => by simp [Op.bytesLess] at h
  | x :: a, y :: b, z :: c, h, h' => by
    simp only [Op.bytesLess, Bool.or_eq_true, Bool.and_eq_true, decide_eq_true_eq, beq_iff_eq, UInt8.lt_iff_toNat_lt] at h h' ⊢
    rcases h with h | ⟨rfl, h⟩
    · rcases h' with h' | ⟨rfl, h'⟩
      · exact .inl (by omega)
      · exact .inl h
    · rcases h' with h' | ⟨rfl, h'⟩
      · exact .inl h'
      · exact .inr ⟨rfl, bl_trans h h'⟩
theorem bl_pre (p : List UInt8) {a b : List UInt8} (h : Op.bytesLess a b = true) : Op.bytesLess (p ++ a) (p ++ b) = true := by
  induction p with
  | nil => exact h
  | cons x p ih => simp [Op.bytesLess, ih]
theorem bl_suf : ∀ {a b : List UInt8} (s : List UInt8), a.length = b.length → Op.bytesLess a b = true → Op.bytesLess (a ++ s) (b ++ s) = true
  | [], [], _, _, h => by simp [Op.bytesLess] at h
  | [], _ :: _, _, h, _ => by simp at h
  | _ :: _, [], _, h, _ => by simp at h
  | x :: a, y :: b, s, hl, h => by
    simp only [List.cons_append, Op.bytesLess, Bool.or_eq_true, Bool.and_eq_true, decide_eq_true_eq, beq_iff_eq] at h ⊢
    rcases h with h | ⟨rfl, h⟩
    · exact .inl h
    · exact .inr ⟨rfl, bl_suf s (by simpa using hl) h⟩
/-- The shortlex order. -/
def Slx (a b : List Int) : Prop := a.length < b.length ∨ (a.length = b.length ∧ Op.bytesLess (u8 a) (u8 b) = true)
theorem Slx.trans {a b c : List Int} (h : Slx a b) (h' : Slx b c) : Slx a c := by
  rcases h with h | ⟨h, k⟩ <;> rcases h' with h' | ⟨h', k'⟩
  · exact .inl (by omega)
  · exact .inl (by omega)
  · exact .inl (by omega)
  · exact .inr ⟨by omega, bl_trans k k'⟩
theorem Slx.irrefl {a : List Int} (h : Slx a a) : False := by
  rcases h with h | ⟨_, h⟩
  · omega
  · rw [bl_irrefl] at h
    cases h
theorem Slx.put {a b : List Int} (h : Slx a b) (p s : List Int) : Slx (p ++ a ++ s) (p ++ b ++ s) := by
  rcases h with h | ⟨h, k⟩
  · exact .inl (by simp only [List.length_append]; omega)
  · refine .inr ⟨by simp only [List.length_append]; omega, ?_⟩
    simp only [u8, List.map_append] at k ⊢
    rw [List.append_assoc, List.append_assoc]
    exact bl_pre _ (bl_suf _ (by simpa using h) k)
theorem cmp_pos {a b : ByteArray} (h : 0 < cmpW a b) : Slx (bytesOf b) (bytesOf a) := by
  unfold cmpW at h
  unfold Slx
  rw [bytesOf_length, bytesOf_length, ← toList_u8, ← toList_u8]
  split at h
  · omega
  · split at h
    · exact .inl (by assumption)
    · split at h
      · omega
      · split at h
        · exact .inr ⟨by omega, by assumption⟩
        · omega
theorem cmp_neg {a b : ByteArray} (h : Slx (bytesOf a) (bytesOf b)) : cmpW a b ≤ 0 := by
  unfold Slx at h
  rw [bytesOf_length, bytesOf_length, ← toList_u8, ← toList_u8] at h
  unfold cmpW
  rcases h with h | ⟨h, k⟩
  · rw [if_pos h]; omega
  · rw [if_neg (by omega), if_neg (by omega), if_pos k]; omega
theorem cmp_self (a : ByteArray) : cmpW a a ≤ 0 := by
  unfold cmpW
  rw [if_neg (by omega), if_neg (by omega), if_neg (by rw [bl_irrefl]; simp), if_neg (by rw [bl_irrefl]; simp)]
  omega

theorem chr_bytes {a : Int} (h0 : 0 ≤ a) (h1 : a < 6) : bytesOf (chr a) = [97 + a] := by
  have e : wrap64 (97 + a) % 256 = 97 + a := by rw [wrap_in (by omega) (by omega)]; omega
  unfold chr
  rw [e, of_str (fun x hx => by rw [List.mem_singleton] at hx; omega)]
theorem bytes_append (a b : ByteArray) : bytesOf (a ++ b) = bytesOf a ++ bytesOf b := by simp [bytesOf]
/-- Letters of bytes. -/
def letB (xs : List Int) : List Int := xs.map (fun b => (b - 97) % 256)
theorem lets_eq (w : ByteArray) : lets w = letB (bytesOf w) := by
  apply List.ext_getElem
  · rw [lets_length]; simp [letB, bytesOf_length]
  · intro i h1 h2
    rw [lets_at]
    simp only [letB, List.getElem_map]
    rw [bt_at w i (by rw [lets_length] at h1; exact h1)]
theorem bl_app : ∀ {a b : List UInt8} (s t : List UInt8), a.length = b.length → Op.bytesLess a b = true → Op.bytesLess (a ++ s) (b ++ t) = true
  | [], [], _, _, _, h => by simp [Op.bytesLess] at h
  | [], _ :: _, _, _, h, _ => by simp at h
  | _ :: _, [], _, _, h, _ => by simp at h
  | x :: a, y :: b, s, t, hl, h => by
    simp only [List.cons_append, Op.bytesLess, Bool.or_eq_true, Bool.and_eq_true, decide_eq_true_eq, beq_iff_eq] at h ⊢
    rcases h with h | ⟨rfl, h⟩
    · exact .inl h
    · exact .inr ⟨rfl, bl_app s t (by simpa using hl) h⟩
theorem Slx.app {u v : List Int} (h : Slx u v) (x y : Int) : Slx (u ++ [x]) (v ++ [y]) := by
  rcases h with h | ⟨h, k⟩
  · exact .inl (by simp; omega)
  · refine .inr ⟨by simp [h], ?_⟩
    simp only [u8, List.map_append] at k ⊢
    exact bl_app _ _ (by simpa using h) k
theorem Slx.last {u : List Int} {x y : Int} (h0 : 0 ≤ x) (h : x < y) (hy : y < 256) : Slx (u ++ [x]) (u ++ [y]) := by
  refine .inr ⟨by simp, ?_⟩
  simp only [u8, List.map_append, List.map_cons, List.map_nil]
  refine bl_pre _ ?_
  simp only [Op.bytesLess, Bool.or_eq_true, decide_eq_true_eq]
  refine .inl ?_
  rw [UInt8.lt_iff_toNat_lt, UInt8.toNat_ofNat', UInt8.toNat_ofNat']
  omega
theorem Slx.nil {v : List Int} (h : v ≠ []) : Slx [] v := by
  cases v with
  | nil => exact absurd rfl h
  | cons x v => exact .inl (by simp)
/-- The word of a state of the search, as bytes. -/
def W (S : SS) (j : Nat) : List Int := bytesOf (rdOf ByteArray.empty (wds S) (j : Int))
structure BC (next : List (List Int)) (L s : Int) (S : SS) (i a : Nat) : Prop where
  w0 : W S 0 = []
  o0 : rd S.o 0 = s
  asc : ∀ j k : Nat, j < k → k < S.o.length → Slx (W S j) (W S k)
  run : ∀ j : Nat, j < S.o.length → runs next s (letB (W S j)) = rd S.o (j : Int)
  let' : ∀ j : Nat, j < S.o.length → Let (W S j) L
  cmp : ∀ i' a' : Nat, i' < S.o.length → (a' : Int) < L → (i' < i ∨ i' = i ∧ a' < a) → ∃ j : Nat, j < S.o.length ∧ rd S.o (j : Int) = go1 next (rd S.o (i' : Int)) (a' : Int) ∧ ¬ Slx (W S i' ++ [97 + (a' : Int)]) (W S j)
  nm : ∀ j : Nat, j < S.o.length → rd S.m (rd S.o (j : Int)) = (j : Int)
  mn : ∀ q : Int, 0 ≤ q → q < (S.m.length : Int) → 0 ≤ rd S.m q → rd S.m q < (S.o.length : Int) ∧ rd S.o (rd S.m q) = q
  par : ∀ j : Nat, 0 < j → j < S.o.length → rdOf ByteArray.empty (wds S) (j : Int) = rdOf ByteArray.empty (wds S) (rd S.f (j : Int)) ++ chr (rd S.l (j : Int))
def BCur (S : SS) (i a : Nat) : Prop := ∀ j : Nat, j < S.o.length → Slx (W S j) (W S i ++ [97 + (a : Int)])
theorem Slx.asymm {a b : List Int} (h : Slx a b) (h' : Slx b a) : False := (h.trans h').irrefl
theorem BC.step {next : List (List Int)} {n : Nat} {L s : Int} {S : SS} {i a : Nat} (hS : SI n L S) (w : WI S) (h : BC next L s S i a) (hc : BCur S i a) (hi : i < S.o.length) (ha : (a : Int) < L) (hL : L ≤ 6) (q : Int) (hq : 0 ≤ q ∧ q < (n : Int)) (hqe : q = go1 next (rd S.o (i : Int)) (a : Int)) :
    BC next L s (sk (i : Int) (a : Int) S q) i (a + 1) ∧ BCur (sk (i : Int) (a : Int) S q) i (a + 1) := by
  have hml := hS.ml
  by_cases hn : rd S.m q < 0
  · have e := wds_snoc hS (i : Int) (a : Int) q hn
    have eS : sk (i : Int) (a : Int) S q = ⟨S.o ++ [q], S.f ++ [(i : Int)], S.l ++ [(a : Int)], S.m.set q.toNat (S.o.length : Int)⟩ := by unfold sk; rw [if_pos hn]
    generalize hS' : sk (i : Int) (a : Int) S q = S' at e eS
    have eo : S'.o = S.o ++ [q] := by rw [eS]
    have ef : S'.f = S.f ++ [(i : Int)] := by rw [eS]
    have el : S'.l = S.l ++ [(a : Int)] := by rw [eS]
    have em : S'.m = S.m.set q.toNat (S.o.length : Int) := by rw [eS]
    have hol : S'.o.length = S.o.length + 1 := by rw [eo]; simp
    have hwl := w.wl
    have hfl := hS.fl
    have hll := hS.ll
    have wold : ∀ j : Nat, j < S.o.length → rdOf ByteArray.empty (wds S') (j : Int) = rdOf ByteArray.empty (wds S) (j : Int) := fun j hj => by
      rw [e]; exact rdOf_pre _ (List.prefix_append _ _) (by omega) (by omega)
    have Wold : ∀ j : Nat, j < S.o.length → W S' j = W S j := fun j hj => by unfold W; rw [wold j hj]
    have wnew : rdOf ByteArray.empty (wds S') (S.o.length : Int) = rdOf ByteArray.empty (wds S) (i : Int) ++ chr (a : Int) := by
      rw [e, rdOf_at _ _ _ (by simp; omega), List.getElem_append_right (by omega)]
      simp [hwl]
    have Wnew : W S' S.o.length = W S i ++ [97 + (a : Int)] := by
      unfold W
      rw [wnew, bytes_append, chr_bytes (by omega) (by omega)]
    have oold : ∀ j : Nat, j < S.o.length → rd S'.o (j : Int) = rd S.o (j : Int) := fun j hj => by
      rw [eo]; exact rd_pre (List.prefix_append _ _) (by omega) (by omega)
    have onew : rd S'.o (S.o.length : Int) = q := by rw [eo, rd_app]
    have hin : ∀ j : Nat, j < S'.o.length → j < S.o.length ∨ j = S.o.length := fun j hj => by omega
    have hmset : ∀ p : Int, 0 ≤ p → p < (S.m.length : Int) → rd S'.m p = if q = p then (S.o.length : Int) else rd S.m p := fun p h0 h1 => by
      obtain ⟨x, rfl⟩ := Int.eq_ofNat_of_zero_le hq.1
      obtain ⟨y, rfl⟩ := Int.eq_ofNat_of_zero_le h0
      rw [em]
      simp only [Int.toNat_natCast, rd, List.getD_eq_getElem?_getD, List.getElem?_set]
      by_cases hxy : x = y
      · subst hxy
        have hl' : x < S.m.length := by omega
        simp [hl']
      · have h' : ¬ ((x : Int) = (y : Int)) := by omega
        rw [if_neg hxy, if_neg h']
    have hlast : Slx (W S i ++ [97 + (a : Int)]) (W S i ++ [97 + ((a + 1 : Nat) : Int)]) := Slx.last (by omega) (by omega) (by omega)
    have hob : ∀ j : Nat, j < S.o.length → 0 ≤ rd S.o (j : Int) ∧ rd S.o (j : Int) < (n : Int) := fun j hj => by
      rw [rd_at S.o j hj]; exact hS.ob _ (List.getElem_mem hj)
    refine ⟨⟨?_, ?_, ?_, ?_, ?_, ?_, ?_, ?_, ?_⟩, ?_⟩
    · rw [Wold 0 hS.pos]; exact h.w0
    · have := oold 0 hS.pos
      simpa using this.trans (by simpa using h.o0)
    · intro j k hjk hk
      rcases hin k hk with hk | rfl
      · rw [Wold j (by omega), Wold k hk]; exact h.asc j k hjk hk
      · rw [Wold j hjk, Wnew]; exact hc j hjk
    · intro j hj
      rcases hin j hj with hj | rfl
      · rw [Wold j hj, oold j hj]; exact h.run j hj
      · rw [Wnew, onew]
        have := h.run i hi
        unfold runs letB at this ⊢
        rw [List.map_append, List.foldl_append, this, hqe]
        simp only [List.map_cons, List.map_nil, List.foldl_cons, List.foldl_nil]
        rw [show (97 + (a : Int) - 97) % 256 = (a : Int) by omega]
    · intro j hj
      rcases hin j hj with hj | rfl
      · rw [Wold j hj]; exact h.let' j hj
      · rw [Wnew]
        intro x hx
        rcases List.mem_append.1 hx with hx | hx
        · exact h.let' i hi x hx
        · rw [List.mem_singleton] at hx; omega
    · intro i' a' hi' ha' hlt
      have hi'' : i' < S.o.length := by omega
      rw [oold i' hi'', Wold i' hi'']
      rcases (show (i' < i ∨ i' = i ∧ a' < a) ∨ i' = i ∧ a' = a by omega) with hlt | ⟨rfl, rfl⟩
      · obtain ⟨j, hj, h1, h2⟩ := h.cmp i' a' hi'' ha' hlt
        exact ⟨j, by omega, by rw [oold j hj]; exact h1, by rw [Wold j hj]; exact h2⟩
      · exact ⟨S.o.length, by omega, by rw [onew]; exact hqe, by rw [Wnew]; exact fun h => h.irrefl⟩
    · intro j hj
      rcases hin j hj with hj | rfl
      · have hb := hob j hj
        rw [oold j hj, hmset _ hb.1 (by omega)]
        have := h.nm j hj
        rw [if_neg]
        · exact this
        · rintro rfl
          omega
      · rw [onew, hmset q hq.1 (by omega), if_pos rfl]
    · intro p h0 h1 h2
      rw [em, List.length_set] at h1
      rw [hmset p h0 h1] at h2 ⊢
      by_cases hp : q = p
      · rw [if_pos hp]
        exact ⟨by omega, by rw [onew]; exact hp⟩
      · rw [if_neg hp] at h2 ⊢
        have := h.mn p h0 h1 h2
        obtain ⟨y, hy⟩ := Int.eq_ofNat_of_zero_le h2
        rw [hy] at this ⊢
        exact ⟨by omega, by rw [oold y (by omega)]; exact this.2⟩
    · intro j hj hj'
      rcases hin j hj' with hj' | rfl
      · have hfb := hS.fb j (by omega) hj
        rw [wold j hj', h.par j hj hj', ef, el, rd_pre (List.prefix_append _ _) (by omega) (by omega), rd_pre (List.prefix_append _ _) (by omega) (by omega)]
        rw [← rd_at S.f j (by omega)] at hfb
        obtain ⟨y, hy⟩ := Int.eq_ofNat_of_zero_le hfb.1
        rw [hy] at hfb ⊢
        rw [wold y (by omega)]
      · rw [wnew, ef, el, ← hfl, rd_app, hfl, ← hll, rd_app, wold i hi]
    · intro j hj
      rw [Wold i hi]
      rcases hin j hj with hj | rfl
      · rw [Wold j hj]; exact (hc j hj).trans hlast
      · rw [Wnew]; exact hlast
  · have e : sk (i : Int) (a : Int) S q = S := by unfold sk; rw [if_neg hn]
    rw [e]
    have hlast : Slx (W S i ++ [97 + (a : Int)]) (W S i ++ [97 + ((a + 1 : Nat) : Int)]) := Slx.last (by omega) (by omega) (by omega)
    refine ⟨⟨h.w0, h.o0, h.asc, h.run, h.let', ?_, h.nm, h.mn, h.par⟩, fun j hj => (hc j hj).trans hlast⟩
    intro i' a' hi' ha' hlt
    rcases (show (i' < i ∨ i' = i ∧ a' < a) ∨ i' = i ∧ a' = a by omega) with hlt | ⟨rfl, rfl⟩
    · exact h.cmp i' a' hi' ha' hlt
    · have := h.mn q hq.1 (by omega) (by omega)
      obtain ⟨y, hy⟩ := Int.eq_ofNat_of_zero_le (show 0 ≤ rd S.m q by omega)
      rw [hy] at this
      exact ⟨y, by omega, by rw [this.2]; exact hqe, fun hh => (hc y (by omega)).asymm hh⟩
theorem BC.row {next : List (List Int)} {n : Nat} {L s : Int} {i : Nat} (hL : L ≤ 6) (x : Int) : ∀ (row : List Int) (a : Nat) (S : SS), SI n L S → WI S → BC next L s S i a → BCur S i a → i < S.o.length → ((a + row.length : Nat) : Int) = L → (∀ q ∈ row, 0 ≤ q ∧ q < (n : Int)) → rd S.o (i : Int) = x → (∀ j : Nat, (h : j < row.length) → row[j] = go1 next x ((a + j : Nat) : Int)) →
    BC next L s (srow (i : Int) a row S) i (a + row.length) ∧ BCur (srow (i : Int) a row S) i (a + row.length)
  | [], a, S, _, _, h, hc, _, _, _, _, _ => ⟨h, hc⟩
  | q :: row, a, S, hS, w, h, hc, hi, ha, hq, hx, hr => by
    have hp := (sk_pre (i : Int) (a : Int) S q)
    have hp' := hp.length_le
    simp only [List.length_cons] at ha
    have hqe : q = go1 next (rd S.o (i : Int)) (a : Int) := by rw [hx]; exact hr 0 (by simp)
    have st := BC.step hS w h hc hi (by omega) hL q (hq q (by simp)) hqe
    have := BC.row hL x row (a + 1) _ (hS.step (by omega) (by omega) ⟨by omega, by omega⟩ (hq q (by simp))) (w.step hS (i : Int) (a : Int) q (by omega) (by omega)) st.1 st.2 (by omega) (by omega) (fun p hp => hq p (List.mem_cons_of_mem _ hp)) (by rw [rd_pre hp (by omega) (by omega)]; exact hx)
      (fun j hj => by have := hr (j + 1) (by simp; omega); rw [List.getElem_cons_succ] at this; rw [this, show a + (j + 1) = a + 1 + j by omega])
    rw [List.length_cons, show a + (row.length + 1) = a + 1 + row.length by omega]
    exact this
theorem BC.go {next : List (List Int)} {n : Nat} {L s : Int} (hnl : next.length = n) (hL : L ≤ 6) (hv : ∀ row ∈ next, (row.length : Int) = L ∧ ∀ q ∈ row, 0 ≤ q ∧ q < (n : Int)) : ∀ (d i : Nat) (S : SS), n - i = d → SI n L S → WI S → BC next L s S i 0 → (i < S.o.length → BCur S i 0) →
    BC next L s (sgo next d i S) (sgo next d i S).o.length 0 := by
  intro d
  induction d with
  | zero =>
    intro i S hd hS hw h hc
    have hlt := hS.lt
    show BC next L s S S.o.length 0
    exact ⟨h.w0, h.o0, h.asc, h.run, h.let', fun i' a' h1 h2 _ => h.cmp i' a' h1 h2 (.inl (by omega)), h.nm, h.mn, h.par⟩
  | succ d ih =>
    intro i S hd hS hw h hc
    unfold sgo
    by_cases hi : i < S.o.length
    · rw [if_pos hi]
      have hb := hS.ob _ (List.getElem_mem hi)
      obtain ⟨q, hq⟩ : ∃ q : Nat, S.o[i] = (q : Int) := ⟨S.o[i].toNat, by omega⟩
      have e : rd S.o (i : Int) = (q : Int) := by rw [rd_at S.o i hi, hq]
      rw [hq] at hb
      have hr := hv next[q] (List.getElem_mem (by omega))
      rw [e, rdL_at next q (by omega)]
      have hS' := SI.row (i := (i : Int)) next[q] 0 S hS (by omega) (by omega) (by omega) hr.2
      have hw' := WI.row (i := (i : Int)) next[q] 0 S hS hw (by omega) (by omega) (by omega) hr.2
      have st := BC.row (s := s) hL (q : Int) next[q] 0 S hS hw h (hc hi) hi (by have := hr.1; omega) hr.2 e (fun j hj => by unfold go1; rw [rdL_at next q (by omega), Nat.zero_add, rd_at _ j hj])
      have hlen : ((0 + next[q].length : Nat) : Int) = L := by have := hr.1; omega
      refine ih (i + 1) _ (by omega) hS' hw' ?_ ?_
      · have h := st.1
        exact ⟨h.w0, h.o0, h.asc, h.run, h.let', fun i' a' h1 h2 h3 => h.cmp i' a' h1 h2 (by omega), h.nm, h.mn, h.par⟩
      · intro hi' j hj
        have h1 := st.2 j hj
        exact h1.trans (Slx.app (st.1.asc i (i + 1) (by omega) hi') _ _)
    · rw [if_neg hi]
      exact ⟨h.w0, h.o0, h.asc, h.run, h.let', fun i' a' h1 h2 _ => h.cmp i' a' h1 h2 (.inl (by omega)), h.nm, h.mn, h.par⟩
theorem BC.start {next : List (List Int)} {n : Nat} {L s : Int} (h0 : 0 ≤ s) (h1 : s < (n : Int)) : BC next L s (s0 n s) 0 0 ∧ BCur (s0 n s) 0 0 := by
  have hS := SI.start (L := L) h0 h1
  have hw : W (s0 n s) 0 = [] := rfl
  have hz : ∀ j : Nat, j < (s0 n s).o.length → j = 0 := fun j hj => by simp [s0] at hj; omega
  have hm : ∀ p : Int, 0 ≤ p → p < (n : Int) → rd (s0 n s).m p = if s = p then 0 else -1 := fun p h2 h3 => by
    obtain ⟨x, rfl⟩ := Int.eq_ofNat_of_zero_le h0
    obtain ⟨y, rfl⟩ := Int.eq_ofNat_of_zero_le h2
    show rd ((List.replicate n (-1)).set (x : Int).toNat 0) (y : Int) = _
    rw [Int.toNat_natCast, rd_at _ y (by simp; omega), List.getElem_set]
    by_cases hxy : x = y
    · subst hxy; simp
    · rw [if_neg hxy, if_neg (by omega)]; simp
  refine ⟨⟨hw, rfl, fun j k hjk hk => ?_, fun j hj => ?_, fun j hj => ?_, fun i' a' h2 h3 h4 => ?_, fun j hj => ?_, fun q h2 h3 h4 => ?_, fun j hj hj' => ?_⟩, fun j hj => ?_⟩
  · have := hz k hk; omega
  · rw [hz j hj]; rfl
  · rw [hz j hj, hw]
    intro x hx
    simp at hx
  · omega
  · rw [hz j hj]
    show rd (s0 n s).m s = 0
    rw [hm s h0 h1, if_pos rfl]
  · have h3' : q < (n : Int) := by simpa [s0] using h3
    rw [hm q h2 h3'] at h4 ⊢
    by_cases e : s = q
    · rw [if_pos e]
      exact ⟨by simp [s0], e⟩
    · rw [if_neg e] at h4; omega
  · have := hz j hj'; omega
  · rw [hz j hj, hw]
    exact Slx.nil (by simp)
theorem srch_BC {L s : Int} {fin : List Bool} {next : List (List Int)} (hv : valE L s fin next = 0) : BC next L s (srch s fin next) (srch s fin next).o.length 0 := by
  obtain ⟨v1, v2, v3, v4, v5, v6, v7, v8⟩ := valE_zero hv
  have := BC.start (next := next) (L := L) v6 v7
  exact BC.go v5 v2 v8 fin.length 0 _ rfl (SI.start v6 v7) (WI.start _ _) this.1 (fun _ => this.2)

theorem u8_inj : ∀ {a b : List Int}, Byt a → Byt b → u8 a = u8 b → a = b
  | [], [], _, _, _ => rfl
  | [], _ :: _, _, _, h => by simp [u8] at h
  | _ :: _, [], _, _, h => by simp [u8] at h
  | x :: a, y :: b, ha, hb, h => by
    simp only [u8, List.map_cons, List.cons.injEq] at h
    have hx := ha x (by simp)
    have hy := hb y (by simp)
    have e := congrArg UInt8.toNat h.1
    rw [UInt8.toNat_ofNat', UInt8.toNat_ofNat'] at e
    rw [show x = y by omega, u8_inj (fun z hz => ha z (by simp [hz])) (fun z hz => hb z (by simp [hz])) h.2]
theorem Slx.tri {a b : List Int} (ha : Byt a) (hb : Byt b) : Slx a b ∨ a = b ∨ Slx b a := by
  rcases Nat.lt_trichotomy a.length b.length with h | h | h
  · exact .inl (.inl h)
  · by_cases h1 : Op.bytesLess (u8 a) (u8 b) = true
    · exact .inl (.inr ⟨h, h1⟩)
    · by_cases h2 : Op.bytesLess (u8 b) (u8 a) = true
      · exact .inr (.inr (.inr ⟨h.symm, h2⟩))
      · exact .inr (.inl (u8_inj ha hb (bl_eq (by simpa using h1) (by simpa using h2))))
  · exact .inr (.inr (.inl h))
theorem cmp_lt {a b : ByteArray} (h : Slx (bytesOf a) (bytesOf b)) : cmpW a b = -1 := by
  unfold Slx at h
  rw [bytesOf_length, bytesOf_length, ← toList_u8, ← toList_u8] at h
  unfold cmpW
  rcases h with h | ⟨h, k⟩
  · rw [if_pos h]
  · rw [if_neg (by omega), if_neg (by omega), if_pos k]
theorem wok_of {w : ByteArray} {L : Int} (hL : L ≤ 6) (h : Let (bytesOf w) L) : wok w L = true := by
  unfold wok
  rw [List.all_eq_true]
  intro i hi
  rw [List.mem_range] at hi
  have := h _ (List.getElem_mem (show i < (bytesOf w).length by rw [bytesOf_length]; exact hi))
  rw [bt_at w i hi, decide_eq_true_eq]
  omega
theorem of_wok {w : ByteArray} {L : Int} (hL : L ≤ 6) (h : wok w L = true) : bytesOf w = (lets w).map (97 + ·) := by
  apply List.ext_getElem
  · rw [List.length_map, lets_length, bytesOf_length]
  · intro i h1 h2
    have hi : i < w.size := by rw [bytesOf_length] at h1; exact h1
    have h3 := List.all_eq_true.1 h i (List.mem_range.2 hi)
    rw [decide_eq_true_eq] at h3
    rw [List.getElem_map, lets_at, ← bt_at w i hi]
    have := byt_of w _ (List.getElem_mem h1)
    rw [← bt_at w i hi] at this
    omega
theorem bfs_least {next : List (List Int)} {L s : Int} {S : SS} (hL : L ≤ 6) (h : BC next L s S S.o.length 0) (hp : 0 < S.o.length) : ∀ (m : Nat) (ls : List Int), ls.length = m → (∀ a ∈ ls, 0 ≤ a ∧ a < L) →
    ∃ j : Nat, j < S.o.length ∧ rd S.o (j : Int) = runs next s ls ∧ ¬ Slx (ls.map (97 + ·)) (W S j) := by
  intro m
  induction m with
  | zero =>
    intro ls hl _
    rw [List.length_eq_zero_iff] at hl
    subst hl
    exact ⟨0, hp, h.o0, by rw [h.w0]; exact fun hh => hh.irrefl⟩
  | succ m ih =>
    intro ls hl ha
    have hne : ls ≠ [] := by rintro rfl; simp at hl
    obtain ⟨ls', a, rfl⟩ : ∃ ls' a, ls = ls' ++ [a] := ⟨ls.dropLast, ls.getLast hne, (List.dropLast_concat_getLast hne).symm⟩
    have haa := ha a (by simp)
    obtain ⟨i, hi, h1, h2⟩ := ih ls' (by simpa using hl) (fun b hb => ha b (by simp [hb]))
    obtain ⟨c, rfl⟩ := Int.eq_ofNat_of_zero_le haa.1
    obtain ⟨j, hj, h3, h4⟩ := h.cmp i c hi haa.2 (.inl hi)
    refine ⟨j, hj, ?_, ?_⟩
    · rw [h3, h1]; simp [runs]
    · rw [List.map_append, List.map_cons, List.map_nil]
      intro hh
      have hb1 : Byt (ls'.map (97 + ·)) := by
        intro x hx
        obtain ⟨y, hy, rfl⟩ := List.mem_map.1 hx
        have := ha y (by simp [hy])
        omega
      rcases Slx.tri hb1 ((h.let' i hi).byt hL) with h5 | h5 | h5
      · exact h2 h5
      · rw [h5] at hh; exact h4 hh
      · exact h4 ((h5.app _ _).trans hh)
theorem letB_Let {xs : List Int} {L : Int} (hL : L ≤ 6) (h : Let xs L) : ∀ a ∈ letB xs, 0 ≤ a ∧ a < L := by
  intro a ha
  obtain ⟨b, hb, rfl⟩ := List.mem_map.1 ha
  have := h b hb
  omega

theorem tk_set {α : Type} {xs ys : List α} {j : Nat} (h : j < xs.length) (hl : xs.length = ys.length) : (xs.take j ++ ys.drop j).set j xs[j] = xs.take (j + 1) ++ ys.drop (j + 1) := by
  apply List.ext_getElem?
  intro i
  simp only [List.getElem?_set, List.getElem?_append, List.getElem?_take, List.getElem?_drop, List.length_take, List.length_append, List.length_drop]
  by_cases h1 : j = i
  · subst h1
    rw [if_pos rfl, if_pos (by omega), if_pos (by omega), if_pos (by omega), List.getElem?_eq_getElem h]
  · rw [if_neg h1]
    by_cases h2 : i < j
    · rw [if_pos (by omega), if_pos h2, if_pos (by omega), if_pos (by omega)]
    · rw [if_neg (by omega), if_neg (by omega)]
      congr 1
      omega
theorem tk_all {α : Type} {xs ys : List α} {j : Nat} (h : xs.length ≤ j) (hl : xs.length = ys.length) : xs.take j ++ ys.drop j = xs := by
  rw [List.take_of_length_le h, List.drop_eq_nil_of_le (by omega), List.append_nil]
theorem tk_len {α : Type} {xs ys : List α} {j : Nat} (hl : xs.length = ys.length) : (xs.take j ++ ys.drop j).length = xs.length := by
  simp only [List.length_append, List.length_take, List.length_drop]; omega

theorem rdOf_get {α : Type} (d : α) (l : List α) (i : Nat) (h : i < l.length) : rdOf d l (i : Int) = l[i] := by simp [rdOf, List.getD, h]
def eor (e : List Bool) (row : List Int) (b : Bool) : Bool := row.foldl (fun b t => b || rdOf false e t) b
/-- From which states some word of a length leads to a final one. -/
def E (fin : List Bool) (next : List (List Int)) : Nat → List Bool
  | 0 => fin
  | k + 1 => next.map (fun row => eor (E fin next k) row false)
theorem E_len {fin : List Bool} {next : List (List Int)} (h : next.length = fin.length) : ∀ k, (E fin next k).length = fin.length
  | 0 => rfl
  | k + 1 => by simp [E, h]
def El (fin : List Bool) (next : List (List Int)) (j : Nat) : List (List Bool) := (List.range j).map (E fin next)
theorem El_len (fin : List Bool) (next : List (List Int)) (j : Nat) : (El fin next j).length = j := by simp [El]
theorem El_at (fin : List Bool) (next : List (List Int)) (j k : Nat) (h : k < j) : rd_L3 (El fin next j) (k : Int) = E fin next k := by simp [rd_L3, El, List.getD, h]
theorem El_succ (fin : List Bool) (next : List (List Int)) (j : Nat) : El fin next (j + 1) = El fin next j ++ [E fin next j] := by simp [El, List.range_succ]
def colRow (f : List ByteArray → Int → Int → List ByteArray) : Nat → List Int → List ByteArray → List ByteArray
  | _, [], out => out
  | a, t :: row, out => colRow f (a + 1) row (f out (a : Int) t)
def col (fin : List Bool) (next : List (List Int)) (n : Int) : Nat → List ByteArray → List Int → Int → List ByteArray
  | 0, out, b, _ => out ++ [strOfNums b]
  | k + 1, out, b, q => colRow (fun out a t => if (out.length : Int) < n ∧ rdOf false (E fin next k) t = true then col fin next n k out (b ++ [97 + a]) t else out) 0 (rd_L1 next q) out
def wloop (fin : List Bool) (next : List (List Int)) (s n : Int) : Nat → Nat → List ByteArray → List ByteArray
  | 0, _, out => out
  | d + 1, k, out => if (out.length : Int) < n then wloop fin next s n d (k + 1) (if rdOf false (E fin next k) s = true then col fin next n k out [] s else out) else out
def wordsE (fin : List Bool) (next : List (List Int)) (s n : Int) : List ByteArray := wloop fin next s n 2049 0 []
theorem colRow_len {f : List ByteArray → Int → Int → List ByteArray} {n : Int} (hf : ∀ out a t, (out.length : Int) ≤ n → ((f out a t).length : Int) ≤ n) : ∀ (row : List Int) (a : Nat) (out : List ByteArray), (out.length : Int) ≤ n → ((colRow f a row out).length : Int) ≤ n
  | [], _, _, h => h
  | t :: row, a, out, h => colRow_len hf row (a + 1) _ (hf out _ t h)
theorem col_len (fin : List Bool) (next : List (List Int)) (n : Int) : ∀ (k : Nat) (out : List ByteArray) (b : List Int) (q : Int), (out.length : Int) < n → ((col fin next n k out b q).length : Int) ≤ n
  | 0, out, b, q, h => by show ((out ++ [strOfNums b]).length : Int) ≤ n; simp; omega
  | k + 1, out, b, q, h => by
    refine colRow_len (fun out a t ho => ?_) _ _ _ (by omega)
    by_cases hc : (out.length : Int) < n ∧ rdOf false (E fin next k) t = true
    · show (((if (out.length : Int) < n ∧ rdOf false (E fin next k) t = true then col fin next n k out (b ++ [97 + a]) t else out)).length : Int) ≤ n
      rw [if_pos hc]
      exact col_len fin next n k _ _ _ hc.1
    · show (((if (out.length : Int) < n ∧ rdOf false (E fin next k) t = true then col fin next n k out (b ++ [97 + a]) t else out)).length : Int) ≤ n
      rw [if_neg hc]
      exact ho
theorem wloop_len (fin : List Bool) (next : List (List Int)) (s n : Int) : ∀ (d k : Nat) (out : List ByteArray), (out.length : Int) ≤ n → ((wloop fin next s n d k out).length : Int) ≤ n
  | 0, _, _, h => h
  | d + 1, k, out, h => by
    unfold wloop
    split
    · rename_i h1
      refine wloop_len fin next s n d (k + 1) _ ?_
      split
      · exact col_len fin next n k _ _ _ h1
      · exact h
    · exact h
theorem set_or (row : List Bool) (q : Nat) (h : q < row.length) (e : Bool) : (if rdOf false row (q : Int) = true then row.set q true else row.set q e) = row.set q (rdOf false row (q : Int) || e) := by
  cases rdOf false row (q : Int) <;> rfl
/-- An automaton that is valid. -/
structure VA (L s : Int) (fin : List Bool) (next : List (List Int)) : Prop where
  l1 : 1 ≤ L
  l6 : L ≤ 6
  n0 : 0 < fin.length
  n5 : fin.length ≤ 512
  nl : next.length = fin.length
  s0 : 0 ≤ s
  s1 : s < (fin.length : Int)
  rw : ∀ row ∈ next, (row.length : Int) = L ∧ ∀ q ∈ row, 0 ≤ q ∧ q < (fin.length : Int)
theorem VA.of {L s : Int} {fin : List Bool} {next : List (List Int)} (h : valE L s fin next = 0) : VA L s fin next := by
  obtain ⟨v1, v2, v3, v4, v5, v6, v7, v8⟩ := valE_zero h
  exact ⟨v1, v2, v3, v4, v5, v6, v7, v8⟩

/-- Paths in an automaton. -/
inductive Rt (next : List (List Int)) : Int → Int → Prop
  | refl (q : Int) : Rt next q q
  | step {q t u : Int} (h : t ∈ rd_L1 next q) (k : Rt next t u) : Rt next q u
theorem Rt.trans {next : List (List Int)} {a b c : Int} (h : Rt next a b) (k : Rt next b c) : Rt next a c := by
  induction h with
  | refl _ => exact k
  | step h _ ih => exact .step h (ih k)
theorem Rt.snoc {next : List (List Int)} {a b c : Int} (h : Rt next a b) (k : c ∈ rd_L1 next b) : Rt next a c := h.trans (.step k (.refl _))
def Lv (fin : List Bool) (next : List (List Int)) (q : Int) : Prop := ∃ t, Rt next q t ∧ rdOf false fin t = true
def Cyc (next : List (List Int)) (q : Int) : Prop := ∃ t, t ∈ rd_L1 next q ∧ Rt next t q
/-- Infinitely many words are accepted. -/
def Inf (s : Int) (fin : List Bool) (next : List (List Int)) : Prop := ∃ q, Rt next s q ∧ Lv fin next q ∧ Cyc next q
section
variable {L s : Int} {fin : List Bool} {next : List (List Int)}
theorem VA.row (V : VA L s fin next) {q : Int} (h0 : 0 ≤ q) (h1 : q < (fin.length : Int)) : ((rd_L1 next q).length : Int) = L ∧ ∀ t ∈ rd_L1 next q, 0 ≤ t ∧ t < (fin.length : Int) := by
  obtain ⟨y, rfl⟩ := Int.eq_ofNat_of_zero_le h0
  have := V.nl
  rw [rdL_at next y (by omega)]
  exact V.rw _ (List.getElem_mem (by omega))
theorem VA.go (V : VA L s fin next) {q a : Int} (h0 : 0 ≤ q) (h1 : q < (fin.length : Int)) (a0 : 0 ≤ a) (a1 : a < L) : go1 next q a ∈ rd_L1 next q := by
  obtain ⟨c, rfl⟩ := Int.eq_ofNat_of_zero_le a0
  have := (V.row h0 h1).1
  unfold go1
  rw [rd_at _ c (by omega)]
  exact List.getElem_mem _
theorem VA.rt (V : VA L s fin next) {q t : Int} (h : Rt next q t) (h0 : 0 ≤ q ∧ q < (fin.length : Int)) : 0 ≤ t ∧ t < (fin.length : Int) := by
  induction h with
  | refl _ => exact h0
  | step h _ ih => exact ih ((V.row h0.1 h0.2).2 _ h)
theorem VA.runs (V : VA L s fin next) : ∀ (ls : List Int) (q : Int), 0 ≤ q → q < (fin.length : Int) → (∀ a ∈ ls, 0 ≤ a ∧ a < L) → Rt next q (runs next q ls)
  | [], q, _, _, _ => .refl q
  | a :: ls, q, h0, h1, h => by
    have ha := h a (by simp)
    have hm := V.go h0 h1 ha.1 ha.2
    have hb := (V.row h0 h1).2 _ hm
    exact .step hm (V.runs ls _ hb.1 hb.2 (fun b hb => h b (List.mem_cons_of_mem _ hb)))
theorem VA.val (V : VA L s fin next) {q : Int} (h0 : 0 ≤ q) (h1 : q < (fin.length : Int)) : valE L q fin next = 0 := by
  have := V.l1; have := V.l6; have := V.n0; have := V.n5; have := V.nl
  unfold valE
  rw [if_neg (by omega), if_neg (by omega), if_neg (by omega), if_pos]
  rw [List.all_eq_true]
  intro row hr
  have := V.rw row hr
  simp only [okRow, Bool.and_eq_true, decide_eq_true_eq, List.all_eq_true]
  exact this
theorem srch_iff (hv : valE L s fin next = 0) (q : Int) : q ∈ (srch s fin next).o ↔ Rt next s q := by
  have V := VA.of hv
  have hB := srch_BC hv
  have hS := SI.srch hv
  constructor
  · intro h
    obtain ⟨j, hj, rfl⟩ := List.getElem_of_mem h
    have := hB.run j hj
    rw [rd_at _ j hj] at this
    rw [← this]
    exact V.runs _ _ V.s0 V.s1 (letB_Let V.l6 (hB.let' j hj))
  · intro h
    have hs : s ∈ (srch s fin next).o := by
      have := hB.o0
      have h0 := hS.pos
      have e := rd_at (srch s fin next).o 0 h0
      rw [show ((0 : Nat) : Int) = 0 from rfl, this] at e
      have hm := List.getElem_mem h0
      rwa [e.symm] at hm
    have gen : ∀ {a b : Int}, Rt next a b → a ∈ (srch s fin next).o → b ∈ (srch s fin next).o := by
      intro a b h
      induction h with
      | refl _ => exact id
      | step h _ ih =>
        intro ha
        refine ih ?_
        obtain ⟨i, hi, rfl⟩ := List.getElem_of_mem ha
        have hb := hS.ob _ ha
        obtain ⟨c, hc, rfl⟩ := List.getElem_of_mem h
        have hr := (V.row hb.1 hb.2).1
        obtain ⟨j, hj, h1, _⟩ := hB.cmp i c hi (by omega) (.inl hi)
        rw [rd_at _ i hi] at h1
        unfold go1 at h1
        rw [rd_at _ c hc] at h1
        rw [← h1, rd_at _ j hj]
        exact List.getElem_mem hj
    exact gen h hs
end
theorem nodup_le : ∀ (n : Nat) (l : List Nat), l.Nodup → (∀ x ∈ l, x < n) → l.length ≤ n
  | 0, l, _, h => by
    cases l with
    | nil => simp
    | cons x l => exact absurd (h x (by simp)) (by omega)
  | n + 1, l, hd, h => by
    by_cases hn : n ∈ l
    · have := nodup_le n (l.erase n) (hd.erase n) (fun x hx => by
        rw [hd.mem_erase_iff] at hx
        have := h x hx.2
        have := hx.1
        omega)
      rw [List.length_erase_of_mem hn] at this
      omega
    · have := nodup_le n l hd (fun x hx => by
        have := h x hx
        have : x ≠ n := by rintro rfl; exact hn hx
        omega)
      omega
theorem php (p : Nat → Int) (n : Nat) (h : ∀ i, i ≤ n → 0 ≤ p i ∧ p i < (n : Int)) : ∃ i j, i < j ∧ j ≤ n ∧ p i = p j := by
  refine Classical.byContradiction (fun hc => ?_)
  have hd : ((List.range (n + 1)).map (fun i => (p i).toNat)).Nodup := by
    rw [List.Nodup, List.pairwise_iff_getElem]
    intro i j hi hj hij e
    simp only [List.getElem_map, List.getElem_range, List.length_map, List.length_range] at e hi hj
    have h1 := h i (by omega)
    have h2 := h j (by omega)
    exact hc ⟨i, j, hij, by omega, by omega⟩
  have := nodup_le n _ hd (fun x hx => by
    obtain ⟨i, hi, rfl⟩ := List.mem_map.1 hx
    rw [List.mem_range] at hi
    have := h i (by omega)
    omega)
  simp at this
  omega
theorem Rt.along {next : List (List Int)} {p : Nat → Int} {k : Nat} (h : ∀ i, i < k → p (i + 1) ∈ rd_L1 next (p i)) : ∀ (d i : Nat), i + d ≤ k → Rt next (p i) (p (i + d))
  | 0, i, _ => .refl _
  | d + 1, i, hd => by
    have := Rt.along h d (i + 1) (by omega)
    rw [show i + 1 + d = i + (d + 1) by omega] at this
    exact .step (h i (by omega)) this
/-- A long path through n states has a cycle. -/
theorem long_cyc {L s : Int} {fin : List Bool} {next : List (List Int)} (V : VA L s fin next) {p : Nat → Int} {k : Nat} (hk : fin.length ≤ k) (h0 : p 0 = s) (h : ∀ i, i < k → p (i + 1) ∈ rd_L1 next (p i)) : ∃ i, i ≤ k ∧ Rt next s (p i) ∧ Rt next (p i) (p k) ∧ Cyc next (p i) := by
  have hb : ∀ i, i ≤ k → 0 ≤ p i ∧ p i < (fin.length : Int) := fun i hi => by
    have := Rt.along h i 0 (by omega)
    rw [h0, Nat.zero_add] at this
    exact V.rt this ⟨V.s0, V.s1⟩
  obtain ⟨i, j, hij, hj, e⟩ := php p fin.length (fun i hi => hb i (by omega))
  refine ⟨i, by omega, ?_, ?_, p (i + 1), h i (by omega), ?_⟩
  · have := Rt.along h i 0 (by omega)
    rw [h0, Nat.zero_add] at this
    exact this
  · have := Rt.along h (k - i) i (by omega)
    rwa [show i + (k - i) = k by omega] at this
  · have := Rt.along h (j - (i + 1)) (i + 1) (by omega)
    rw [show i + 1 + (j - (i + 1)) = j by omega, ← e] at this
    exact this

/-- One row: a state with a live successor is live. -/
def lin (q : Nat) : List Int → List Bool × Bool → List Bool × Bool
  | [], S => S
  | t :: row, S => lin q row (if rdOf false S.1 t = true ∧ ¬ rdOf false S.1 (q : Int) = true then (S.1.set q true, true) else S)
def lpass : List (List Int) → Nat → List Bool × Bool → List Bool × Bool
  | [], _, S => S
  | row :: rows, q, S => lpass rows (q + 1) (lin q row S)
def lfix (next : List (List Int)) : Nat → List Bool → List Bool
  | 0, lv => lv
  | d + 1, lv => if (lpass next 0 (lv, false)).2 = true then lfix next d (lpass next 0 (lv, false)).1 else (lpass next 0 (lv, false)).1
def nf (l : List Bool) : Nat := l.countP (fun b => !b)
theorem nf_set (l : List Bool) (q : Nat) (h : q < l.length) (hq : ¬ rdOf false l (q : Int) = true) : nf (l.set q true) + 1 = nf l := by
  rw [rdOf_get _ _ q h] at hq
  unfold nf
  rw [List.countP_set h]
  have hp : 0 < l.countP (fun b => !b) := List.countP_pos_iff.2 ⟨l[q], List.getElem_mem h, by simpa using hq⟩
  rw [Bool.not_eq_true] at hq
  simp [hq]
  omega
theorem rdOf_set {α : Type} (d : α) (l : List α) (q : Nat) (v : α) (h : q < l.length) (x : Int) (hx : 0 ≤ x) : rdOf d (l.set q v) x = if x = (q : Int) then v else rdOf d l x := by
  obtain ⟨y, rfl⟩ := Int.eq_ofNat_of_zero_le hx
  simp only [rdOf, Int.toNat_natCast, List.getD_eq_getElem?_getD, List.getElem?_set]
  by_cases e : q = y
  · subst e; simp [h]
  · rw [if_neg e, if_neg (by omega)]
/-- What a step from S to S' is good for. -/
structure LG (n : Nat) (S S' : List Bool × Bool) : Prop where
  len : S'.1.length = S.1.length
  mono : ∀ x : Int, 0 ≤ x → rdOf false S.1 x = true → rdOf false S'.1 x = true
  chg : S' = S ∨ S'.2 = true ∧ nf S'.1 < nf S.1
theorem LG.refl (n : Nat) (S : List Bool × Bool) : LG n S S := ⟨rfl, fun _ _ h => h, .inl rfl⟩
theorem LG.trans {n : Nat} {A B C : List Bool × Bool} (h : LG n A B) (k : LG n B C) : LG n A C := by
  refine ⟨k.len.trans h.len, fun x hx hh => k.mono x hx (h.mono x hx hh), ?_⟩
  rcases h.chg with e | ⟨e1, e2⟩
  · subst e; exact k.chg
  · rcases k.chg with e | ⟨e3, e4⟩
    · subst e; exact .inr ⟨e1, e2⟩
    · exact .inr ⟨e3, by omega⟩
theorem lin_ok (Sd : Int → Prop) (n q : Nat) (hq : q < n) : ∀ (row : List Int) (S : List Bool × Bool), S.1.length = n → (∀ t ∈ row, 0 ≤ t ∧ t < (n : Int)) → (∀ t ∈ row, Sd t → Sd (q : Int)) → (∀ x : Int, 0 ≤ x → x < (n : Int) → rdOf false S.1 x = true → Sd x) →
    LG n S (lin q row S) ∧ (∀ x : Int, 0 ≤ x → x < (n : Int) → rdOf false (lin q row S).1 x = true → Sd x) ∧ (lin q row S = S → ∀ t ∈ row, rdOf false S.1 t = true → rdOf false S.1 (q : Int) = true)
  | [], S, _, _, _, h => ⟨.refl n S, h, fun _ t ht => by simp at ht⟩
  | t :: row, S, hl, hb, hs, h => by
    have ht := hb t (by simp)
    have e0 : lin q (t :: row) S = lin q row (if rdOf false S.1 t = true ∧ ¬ rdOf false S.1 (q : Int) = true then (S.1.set q true, true) else S) := rfl
    rw [e0]
    by_cases hc : rdOf false S.1 t = true ∧ ¬ rdOf false S.1 (q : Int) = true
    · rw [if_pos hc]
      have hl' : (S.1.set q true).length = n := by simpa using hl
      have hset : ∀ x : Int, 0 ≤ x → rdOf false (S.1.set q true) x = if x = (q : Int) then true else rdOf false S.1 x := fun x hx => rdOf_set false S.1 q true (by omega) x hx
      have hstep : LG n S (S.1.set q true, true) := ⟨by simp, fun x hx hh => (hset x hx).trans (by by_cases e : x = (q : Int) <;> simp [e, hh]), .inr ⟨rfl, by have := nf_set S.1 q (by omega) hc.2; show nf (S.1.set q true) < _; omega⟩⟩
      have := lin_ok Sd n q hq row (S.1.set q true, true) hl' (fun u hu => hb u (by simp [hu])) (fun u hu => hs u (by simp [hu])) (fun x h0 h1 hh => by
        have hh : rdOf false (S.1.set q true) x = true := hh
        rw [hset x h0] at hh
        split at hh
        · rename_i e; rw [e]; exact hs t (by simp) (h t ht.1 ht.2 hc.1)
        · exact h x h0 h1 hh)
      refine ⟨hstep.trans this.1, this.2.1, fun e => ?_⟩
      exfalso
      rcases (hstep.trans this.1).chg with e2 | ⟨e2, e3⟩
      · have h4 := this.1.chg
        rcases h4 with h4 | ⟨h4, h5⟩
        · rw [h4] at e2
          have h7 : nf (S.1.set q true) = nf S.1 := congrArg (fun S : List Bool × Bool => nf S.1) e2
          have h6 := nf_set S.1 q (by omega) hc.2
          omega
        · have h7 : nf (lin q row (S.1.set q true, true)).1 = nf S.1 := by rw [e]
          have h6 := nf_set S.1 q (by omega) hc.2
          have h8 : nf (lin q row (S.1.set q true, true)).1 < nf (S.1.set q true) := h5
          omega
      · have h7 : nf (lin q row (S.1.set q true, true)).1 = nf S.1 := by rw [e]
        omega
    · rw [if_neg hc]
      have := lin_ok Sd n q hq row S hl (fun u hu => hb u (by simp [hu])) (fun u hu => hs u (by simp [hu])) h
      refine ⟨this.1, this.2.1, fun e u hu hh => ?_⟩
      rcases List.mem_cons.1 hu with rfl | hu
      · exact Classical.byContradiction (fun h2 => hc ⟨hh, h2⟩)
      · exact this.2.2 e u hu hh
theorem lpass_ok (Sd : Int → Prop) (next : List (List Int)) (n : Nat) : ∀ (rows : List (List Int)) (q : Nat) (S : List Bool × Bool), q + rows.length = n → rows = next.drop q → S.1.length = n → (∀ row ∈ next, ∀ t ∈ row, 0 ≤ t ∧ t < (n : Int)) → (∀ q : Int, 0 ≤ q → q < (n : Int) → ∀ t ∈ rd_L1 next q, Sd t → Sd q) → (∀ x : Int, 0 ≤ x → x < (n : Int) → rdOf false S.1 x = true → Sd x) →
    LG n S (lpass rows q S) ∧ (∀ x : Int, 0 ≤ x → x < (n : Int) → rdOf false (lpass rows q S).1 x = true → Sd x) ∧ (lpass rows q S = S → ∀ x : Int, (q : Int) ≤ x → x < (n : Int) → ∀ t ∈ rd_L1 next x, rdOf false S.1 t = true → rdOf false S.1 x = true)
  | [], q, S, hn, _, _, _, _, h => ⟨.refl n S, h, fun _ x h0 h1 => by simp at hn; omega⟩
  | row :: rows, q, S, hn, hr, hl, hb, hs, h => by
    simp only [List.length_cons] at hn
    have hq : q < next.length := by
      have := congrArg List.length hr
      simp only [List.length_cons, List.length_drop] at this
      omega
    rw [List.drop_eq_getElem_cons hq] at hr
    injection hr with hr1 hr2
    have hrow : rd_L1 next (q : Int) = row := by rw [rdL_at next q hq, hr1]
    have h1 := lin_ok Sd n q (by omega) row S hl (by rw [hr1]; exact hb _ (List.getElem_mem hq)) (fun t ht hst => hs (q : Int) (by omega) (by omega) t (by rw [hrow]; exact ht) hst) h
    have h2 := lpass_ok Sd next n rows (q + 1) (lin q row S) (by omega) hr2 (by rw [h1.1.len]; exact hl) hb hs h1.2.1
    refine ⟨h1.1.trans h2.1, h2.2.1, fun e x h3 h4 t ht hh => ?_⟩
    have e1 : lin q row S = S := by
      rcases h1.1.chg with e1 | ⟨e1, e2⟩
      · exact e1
      · exfalso
        have e : lpass rows (q + 1) (lin q row S) = S := e
        rcases h2.1.chg with e3 | ⟨e3, e4⟩
        · rw [e3] at e; rw [e] at e2; omega
        · rw [e] at e4; omega
    by_cases hx : x = (q : Int)
    · subst hx
      rw [hrow] at ht
      exact h1.2.2 e1 t ht hh
    · have e : lpass rows (q + 1) (lin q row S) = S := e
      rw [e1] at h2 e
      exact h2.2.2 e x (by omega) h4 t ht hh
section
variable {L s : Int} {fin : List Bool} {next : List (List Int)}
/-- A list that says which states are live. -/
def IsLv (fin : List Bool) (next : List (List Int)) (lv : List Bool) : Prop := lv.length = fin.length ∧ ∀ x : Int, 0 ≤ x → x < (fin.length : Int) → (rdOf false lv x = true ↔ Lv fin next x)
structure LI (fin : List Bool) (next : List (List Int)) (lv : List Bool) : Prop where
  len : lv.length = fin.length
  fi : ∀ x : Int, 0 ≤ x → rdOf false fin x = true → rdOf false lv x = true
  snd : ∀ x : Int, 0 ≤ x → x < (fin.length : Int) → rdOf false lv x = true → Lv fin next x
theorem LI.start (fin : List Bool) (next : List (List Int)) : LI fin next fin := ⟨rfl, fun _ _ h => h, fun x _ _ h => ⟨x, .refl x, h⟩⟩
theorem LI.pass (V : VA L s fin next) {lv : List Bool} (h : LI fin next lv) : LI fin next (lpass next 0 (lv, false)).1 ∧ ((lpass next 0 (lv, false)).2 = true ∧ nf (lpass next 0 (lv, false)).1 < nf lv ∨ lpass next 0 (lv, false) = (lv, false) ∧ IsLv fin next lv) := by
  have := lpass_ok (Lv fin next) next fin.length next 0 (lv, false) (by have := V.nl; omega) (by simp) h.len (fun row hr => (V.rw row hr).2) (fun q h0 h1 t ht hl => by
    obtain ⟨u, hu, hf⟩ := hl
    exact ⟨u, .step ht hu, hf⟩) h.snd
  refine ⟨⟨this.1.len.trans h.len, fun x hx hf => this.1.mono x hx (h.fi x hx hf), this.2.1⟩, ?_⟩
  rcases this.1.chg with e | ⟨e1, e2⟩
  · refine .inr ⟨e, h.len, fun x h0 h1 => ⟨h.snd x h0 h1, fun hl => ?_⟩⟩
    have hc := this.2.2 e
    obtain ⟨u, hu, hf⟩ := hl
    clear e
    induction hu with
    | refl _ => exact h.fi _ h0 hf
    | step ht _ ih =>
      have hb := (V.row h0 h1).2 _ ht
      exact hc _ (by omega) h1 _ ht (ih hb.1 hb.2 hf)
  · exact .inl ⟨e1, e2⟩
theorem lfix_ok (V : VA L s fin next) : ∀ (d : Nat) (lv : List Bool), LI fin next lv → nf lv < d → IsLv fin next (lfix next d lv)
  | 0, _, _, h => by omega
  | d + 1, lv, h, hd => by
    unfold lfix
    obtain ⟨h1, h2⟩ := h.pass V
    rcases h2 with ⟨h2, h3⟩ | ⟨h2, h3⟩
    · rw [if_pos h2]
      exact lfix_ok V d _ h1 (by omega)
    · rw [h2, if_neg (by simp)]
      exact h3
theorem IsLv.eq {a b : List Bool} (h : IsLv fin next a) (k : IsLv fin next b) : a = b := by
  apply List.ext_getElem
  · rw [h.1, k.1]
  · intro i h1 h2
    have ha := h.2 (i : Int) (by omega) (by have := h.1; omega)
    have hb := k.2 (i : Int) (by omega) (by have := h.1; omega)
    rw [rdOf_get _ _ i h1] at ha
    rw [rdOf_get _ _ i h2] at hb
    rw [Bool.eq_iff_iff]
    exact ha.trans hb.symm
def liter (next : List (List Int)) : Nat → List Bool → List Bool
  | 0, lv => lv
  | d + 1, lv => liter next d (lpass next 0 (lv, false)).1
theorem liter_ok (V : VA L s fin next) : ∀ (d : Nat) (lv : List Bool), LI fin next lv → nf lv ≤ d → IsLv fin next (liter next d lv)
  | 0, lv, h, hd => by
    obtain ⟨h1, h2⟩ := h.pass V
    rcases h2 with ⟨h2, h3⟩ | ⟨h2, h3⟩
    · omega
    · exact h3
  | d + 1, lv, h, hd => by
    unfold liter
    obtain ⟨h1, h2⟩ := h.pass V
    rcases h2 with ⟨h2, h3⟩ | ⟨h2, h3⟩
    · exact liter_ok V d _ h1 (by omega)
    · rw [h2]
      have st : ∀ d, liter next d lv = lv := by
        intro d
        induction d with
        | zero => rfl
        | succ d ih => unfold liter; rw [h2]; exact ih
      show IsLv fin next (liter next d lv)
      rw [st]
      exact h3
end

/-- One round: a state without a successor that is left goes. -/
def rpass : List (List Int) → Nat → List Bool × Bool → List Bool × Bool
  | [], _, S => S
  | row :: rows, q, S => rpass rows (q + 1) (if rdOf false S.1 (q : Int) = true ∧ ¬ eor S.1 row false = true then (S.1.set q false, true) else S)
def rfix (next : List (List Int)) : Nat → List Bool → List Bool
  | 0, lv => lv
  | d + 1, lv => if (rpass next 0 (lv, false)).2 = true then rfix next d (rpass next 0 (lv, false)).1 else (rpass next 0 (lv, false)).1
def nt (l : List Bool) : Nat := l.countP (fun b => b)
theorem nt_set (l : List Bool) (q : Nat) (h : q < l.length) (hq : rdOf false l (q : Int) = true) : nt (l.set q false) + 1 = nt l := by
  rw [rdOf_get _ _ q h] at hq
  unfold nt
  rw [List.countP_set h]
  have hp : 0 < l.countP (fun b => b) := List.countP_pos_iff.2 ⟨l[q], List.getElem_mem h, hq⟩
  simp [hq]
  omega
theorem eor_iff (e : List Bool) : ∀ (row : List Int) (b : Bool), eor e row b = true ↔ b = true ∨ ∃ t ∈ row, rdOf false e t = true
  | [], b => by simp [eor]
  | t :: row, b => by
    show eor e row (b || rdOf false e t) = true ↔ _
    rw [eor_iff e row]
    simp only [Bool.or_eq_true, List.mem_cons, exists_eq_or_imp, or_assoc]
/-- What a step from S to S' is good for: what is left gets less; a set that keeps itself stays. -/
structure RG (next : List (List Int)) (S S' : List Bool × Bool) : Prop where
  len : S'.1.length = S.1.length
  mono : ∀ x : Int, 0 ≤ x → rdOf false S'.1 x = true → rdOf false S.1 x = true
  keep : ∀ Y : Int → Prop, (∀ x, Y x → 0 ≤ x ∧ ∃ t ∈ rd_L1 next x, Y t) → (∀ x, Y x → rdOf false S.1 x = true) → ∀ x, Y x → rdOf false S'.1 x = true
  chg : S' = S ∨ S'.2 = true ∧ nt S'.1 < nt S.1
theorem RG.refl (next : List (List Int)) (S : List Bool × Bool) : RG next S S := ⟨rfl, fun _ _ h => h, fun _ _ h => h, .inl rfl⟩
theorem RG.trans {next : List (List Int)} {A B C : List Bool × Bool} (h : RG next A B) (k : RG next B C) : RG next A C := by
  refine ⟨k.len.trans h.len, fun x hx hh => h.mono x hx (k.mono x hx hh), fun Y hY hh => k.keep Y hY (h.keep Y hY hh), ?_⟩
  rcases h.chg with e | ⟨e1, e2⟩
  · subst e; exact k.chg
  · rcases k.chg with e | ⟨e3, e4⟩
    · subst e; exact .inr ⟨e1, e2⟩
    · exact .inr ⟨e3, by omega⟩
theorem rpass_ok (next : List (List Int)) (n : Nat) : ∀ (rows : List (List Int)) (q : Nat) (S : List Bool × Bool), q + rows.length = n → rows = next.drop q → S.1.length = n →
    RG next S (rpass rows q S) ∧ (rpass rows q S = S → ∀ x : Int, (q : Int) ≤ x → x < (n : Int) → rdOf false S.1 x = true → ∃ t ∈ rd_L1 next x, rdOf false S.1 t = true)
  | [], q, S, hn, _, _ => ⟨.refl next S, fun _ x h0 h1 => by simp at hn; omega⟩
  | row :: rows, q, S, hn, hr, hl => by
    simp only [List.length_cons] at hn
    have hq : q < next.length := by
      have := congrArg List.length hr
      simp only [List.length_cons, List.length_drop] at this
      omega
    rw [List.drop_eq_getElem_cons hq] at hr
    injection hr with hr1 hr2
    have hrow : rd_L1 next (q : Int) = row := by rw [rdL_at next q hq, hr1]
    have e0 : rpass (row :: rows) q S = rpass rows (q + 1) (if rdOf false S.1 (q : Int) = true ∧ ¬ eor S.1 row false = true then (S.1.set q false, true) else S) := rfl
    rw [e0]
    by_cases hc : rdOf false S.1 (q : Int) = true ∧ ¬ eor S.1 row false = true
    · rw [if_pos hc]
      have hset : ∀ x : Int, 0 ≤ x → rdOf false (S.1.set q false) x = if x = (q : Int) then false else rdOf false S.1 x := fun x hx => rdOf_set false S.1 q false (by omega) x hx
      have hnt := nt_set S.1 q (by omega) hc.1
      have hstep : RG next S (S.1.set q false, true) := by
        refine ⟨by simp, fun x hx hh => ?_, fun Y hY hh x hx => ?_, .inr ⟨rfl, by show nt (S.1.set q false) < _; omega⟩⟩
        · have hh : rdOf false (S.1.set q false) x = true := hh
          rw [hset x hx] at hh
          by_cases e : x = (q : Int)
          · rw [if_pos e] at hh; cases hh
          · rw [if_neg e] at hh; exact hh
        · obtain ⟨h0, t, ht, hy⟩ := hY x hx
          show rdOf false (S.1.set q false) x = true
          rw [hset x h0]
          by_cases e : x = (q : Int)
          · exfalso
            refine hc.2 ((eor_iff _ _ _).2 (.inr ⟨t, ?_, hh t hy⟩))
            rw [← hrow, ← e]; exact ht
          · rw [if_neg e]; exact hh x hx
      have h2 := rpass_ok next n rows (q + 1) (S.1.set q false, true) (by omega) hr2 (by simpa using hl)
      refine ⟨hstep.trans h2.1, fun e => ?_⟩
      exfalso
      have h7 : nt (rpass rows (q + 1) (S.1.set q false, true)).1 = nt S.1 := by rw [e]
      rcases h2.1.chg with e3 | ⟨e3, e4⟩
      · rw [e3] at h7
        have h8 : nt (S.1.set q false) = nt S.1 := h7
        omega
      · have h8 : nt (rpass rows (q + 1) (S.1.set q false, true)).1 < nt (S.1.set q false) := e4
        omega
    · rw [if_neg hc]
      have h2 := rpass_ok next n rows (q + 1) S (by omega) hr2 hl
      refine ⟨h2.1, fun e x h3 h4 hh => ?_⟩
      by_cases hx : x = (q : Int)
      · subst hx
        have := Classical.byContradiction (fun h => hc ⟨hh, h⟩)
        rcases (eor_iff _ _ _).1 this with h | ⟨t, ht, h⟩
        · cases h
        · exact ⟨t, by rw [hrow]; exact ht, h⟩
      · exact h2.2 e x (by omega) h4 hh
theorem rfix_ok (next : List (List Int)) (n : Nat) (hn : next.length = n) : ∀ (d : Nat) (lv : List Bool), lv.length = n → nt lv < d →
    (rfix next d lv).length = n ∧ (∀ x : Int, 0 ≤ x → rdOf false (rfix next d lv) x = true → rdOf false lv x = true) ∧ (∀ x : Int, 0 ≤ x → x < (n : Int) → rdOf false (rfix next d lv) x = true → ∃ t ∈ rd_L1 next x, rdOf false (rfix next d lv) t = true) ∧ (∀ Y : Int → Prop, (∀ x, Y x → 0 ≤ x ∧ ∃ t ∈ rd_L1 next x, Y t) → (∀ x, Y x → rdOf false lv x = true) → ∀ x, Y x → rdOf false (rfix next d lv) x = true)
  | 0, _, _, h => by omega
  | d + 1, lv, hl, hd => by
    have h := rpass_ok next n next 0 (lv, false) (by omega) (by simp) hl
    unfold rfix
    rcases h.1.chg with e | ⟨e1, e2⟩
    · have hc := h.2 e
      rw [e, if_neg (by simp)]
      exact ⟨hl, fun _ _ h => h, fun x h0 h1 hh => hc x (by omega) h1 hh, fun Y _ hh => hh⟩
    · rw [if_pos e1]
      have e2' : nt (rpass next 0 (lv, false)).1 < nt lv := e2
      have h3 := rfix_ok next n hn d (rpass next 0 (lv, false)).1 (h.1.len.trans hl) (by omega)
      exact ⟨h3.1, fun x hx hh => h.1.mono x hx (h3.2.1 x hx hh), h3.2.2.1, fun Y hY hh => h3.2.2.2 Y hY (h.1.keep Y hY hh)⟩
def lfill (lv : List Bool) : List Int → List Bool → List Bool
  | [], m => m
  | q :: o, m => lfill lv o (m.set q.toNat (rdOf false lv q))
theorem lfill_ok (lv : List Bool) (n : Nat) : ∀ (o : List Int) (m : List Bool), m.length = n → (∀ q ∈ o, 0 ≤ q ∧ q < (n : Int)) →
    (lfill lv o m).length = n ∧ ∀ x : Int, 0 ≤ x → x < (n : Int) → (rdOf false (lfill lv o m) x = if x ∈ o then rdOf false lv x else rdOf false m x)
  | [], m, hm, _ => ⟨hm, fun x _ _ => by simp [lfill]⟩
  | q :: o, m, hm, h => by
    have hq := h q (by simp)
    obtain ⟨y, rfl⟩ := Int.eq_ofNat_of_zero_le hq.1
    have ih := lfill_ok lv n o (m.set y (rdOf false lv (y : Int))) (by simpa using hm) (fun p hp => h p (by simp [hp]))
    have e : lfill lv ((y : Int) :: o) m = lfill lv o (m.set y (rdOf false lv (y : Int))) := rfl
    rw [e]
    refine ⟨ih.1, fun x h0 h1 => ?_⟩
    rw [ih.2 x h0 h1, rdOf_set false m y _ (by omega) x h0]
    by_cases h1 : x ∈ o
    · rw [if_pos h1, if_pos (by simp [h1])]
    · rw [if_neg h1]
      by_cases h2 : x = (y : Int)
      · rw [if_pos h2, if_pos (by simp [h2]), h2]
      · rw [if_neg h2, if_neg (by simp [h1, h2])]
section
variable {L s : Int} {fin : List Bool} {next : List (List Int)}
def infB (s : Int) (fin : List Bool) (next : List (List Int)) (lv : List Bool) : Bool := rdOf false (rfix next (fin.length + 1) (lfill lv (srch s fin next).o (List.replicate fin.length false))) s
theorem infB_iff (hv : valE L s fin next = 0) {lv : List Bool} (hl : IsLv fin next lv) : infB s fin next lv = true ↔ Inf s fin next := by
  have V := VA.of hv
  have hS := SI.srch hv
  have hf := lfill_ok lv fin.length (srch s fin next).o (List.replicate fin.length false) (by simp) hS.ob
  have hleft : ∀ x : Int, 0 ≤ x → x < (fin.length : Int) → (rdOf false (lfill lv (srch s fin next).o (List.replicate fin.length false)) x = true ↔ Rt next s x ∧ Lv fin next x) := by
    intro x h0 h1
    rw [hf.2 x h0 h1]
    by_cases h2 : x ∈ (srch s fin next).o
    · rw [if_pos h2, hl.2 x h0 h1]
      exact ⟨fun h => ⟨(srch_iff hv x).1 h2, h⟩, fun h => h.2⟩
    · rw [if_neg h2]
      obtain ⟨y, rfl⟩ := Int.eq_ofNat_of_zero_le h0
      rw [rdOf_get _ _ y (by simp; omega)]
      simp only [List.getElem_replicate]
      exact ⟨(fun h => by cases h), fun h => absurd ((srch_iff hv _).2 h.1) h2⟩
  have hnt : nt (lfill lv (srch s fin next).o (List.replicate fin.length false)) < fin.length + 1 := by
    have := List.countP_le_length (p := fun b => b) (l := lfill lv (srch s fin next).o (List.replicate fin.length false))
    rw [hf.1] at this
    unfold nt
    omega
  have hX := rfix_ok next fin.length V.nl (fin.length + 1) _ hf.1 hnt
  unfold infB
  generalize hXe : rfix next (fin.length + 1) (lfill lv (srch s fin next).o (List.replicate fin.length false)) = X at hX
  constructor
  · intro hs
    -- a path without end
    let f : Int → Int := fun q => ((rd_L1 next q).find? (fun t => rdOf false X t)).getD q
    have hfs : ∀ q : Int, 0 ≤ q → q < (fin.length : Int) → rdOf false X q = true → f q ∈ rd_L1 next q ∧ rdOf false X (f q) = true := by
      intro q h0 h1 hq
      obtain ⟨t, ht, htx⟩ := hX.2.2.1 q h0 h1 hq
      cases hfind : (rd_L1 next q).find? (fun t => rdOf false X t) with
      | none =>
        rw [List.find?_eq_none] at hfind
        exact absurd htx (hfind t ht)
      | some u =>
        have e : f q = u := by show ((rd_L1 next q).find? (fun t => rdOf false X t)).getD q = u; rw [hfind]; rfl
        rw [e]
        exact ⟨List.mem_of_find?_eq_some hfind, by simpa using List.find?_some hfind⟩
    let p : Nat → Int := fun i => Nat.rec s (fun _ q => f q) i
    have hp : ∀ i, 0 ≤ p i ∧ p i < (fin.length : Int) ∧ rdOf false X (p i) = true := by
      intro i
      induction i with
      | zero => exact ⟨V.s0, V.s1, hs⟩
      | succ i ih =>
        have := hfs (p i) ih.1 ih.2.1 ih.2.2
        have hb := (V.row ih.1 ih.2.1).2 _ this.1
        exact ⟨hb.1, hb.2, this.2⟩
    have hst : ∀ i, i < fin.length → p (i + 1) ∈ rd_L1 next (p i) := fun i _ => (hfs (p i) (hp i).1 (hp i).2.1 (hp i).2.2).1
    obtain ⟨i, hi, h1, _, h3⟩ := long_cyc V (p := p) (k := fin.length) (Nat.le_refl _) rfl hst
    have h4 := (hleft (p i) (hp i).1 (hp i).2.1).1 (hX.2.1 (p i) (hp i).1 (hp i).2.2)
    exact ⟨p i, h1, h4.2, h3⟩
  · rintro ⟨q, h1, ⟨u, hu, hf⟩, ⟨t, ht, htq⟩⟩
    refine hX.2.2.2 (fun x => Rt next s x ∧ Rt next x q) ?_ ?_ s ⟨.refl s, h1⟩
    · rintro x ⟨h2, h3⟩
      refine ⟨(V.rt h2 ⟨V.s0, V.s1⟩).1, ?_⟩
      cases h3 with
      | refl _ => exact ⟨t, ht, h2.snoc ht, htq⟩
      | step h k => exact ⟨_, h, h2.snoc h, k⟩
    · rintro x ⟨h2, h3⟩
      have hb := V.rt h2 ⟨V.s0, V.s1⟩
      exact (hleft x hb.1 hb.2).2 ⟨h2, u, h3.trans hu, hf⟩
end

theorem dsearch_l2 (L s : Int) (fin : List Bool) (next : List (List Int)) (n : Nat) (hn : n ≤ 512) (i : Nat) (row : List Int) (hl : (row.length : Int) = L) (hL : L ≤ 6) (hq : ∀ q ∈ row, 0 ≤ q ∧ q < (n : Int)) (r : List Int × List Int × List Int × List Int) : ∀ (d j : Nat) (S : SS), row.length - j = d → j ≤ row.length → SI n L S → i < S.o.length →
    Ev (fun k => dfa_search.l1 k (srow (i : Int) j (row.drop j) S).o (srow (i : Int) j (row.drop j) S).f (srow (i : Int) j (row.drop j) S).l (srow (i : Int) j (row.drop j) S).m (wrap64 ((i : Int) + 1)) L s fin next) r →
    Ev (fun k => dfa_search.l2 k S.o S.f S.l S.m (i : Int) row (row.length : Int) (j : Int) L s fin next) r := by
  intro d
  induction d with
  | zero =>
    intro j S hd hj hS hi h
    rw [List.drop_eq_nil_of_le (by omega)] at h
    exact Ev.step (fun _ => rfl) (ev_neg (by omega) h)
  | succ d ih =>
    intro j S hd hj hS hi h
    have hlt : j < row.length := by omega
    have hb := hq row[j] (List.getElem_mem hlt)
    rw [List.drop_eq_getElem_cons hlt] at h
    have hlen := hS.lt
    have hfl := hS.fl
    have hll := hS.ll
    have hml := hS.ml
    have hS' := hS.step (i := (i : Int)) (a := (j : Int)) (q := row[j]) (by omega) (by omega) ⟨by omega, by omega⟩ hb
    have hp := (sk_pre (i : Int) (j : Int) S row[j]).length_le
    have IH := ih (j + 1) _ (by omega) (by omega) hS' (by omega) h
    refine Ev.step (fun _ => rfl) (ev_pos (by omega) (ev_pos (by omega) (ev_pos (by omega) ?_)))
    rw [rd_at row j hlt, wrap_succ hlt (by omega)]
    refine ev_pos hb.1 (ev_pos (by omega) ?_)
    unfold sk at IH
    by_cases h1 : rd S.m row[j] < 0
    · rw [if_pos h1] at IH
      exact ev_pos h1 (ev_pos (by omega) (ev_pos (by omega) (ev_pos (by omega) IH)))
    · rw [if_neg h1] at IH
      exact ev_neg h1 IH
theorem dsearch_l1 (L s : Int) (fin : List Bool) (next : List (List Int)) (n : Nat) (hn : n ≤ 512) (hnl : next.length = n) (hL : L ≤ 6) (hv : ∀ row ∈ next, (row.length : Int) = L ∧ ∀ q ∈ row, 0 ≤ q ∧ q < (n : Int)) : ∀ (d i : Nat) (S : SS), n - i = d → SI n L S →
    Ev (fun k => dfa_search.l1 k S.o S.f S.l S.m (i : Int) L s fin next) ((sgo next d i S).o, (sgo next d i S).f, (sgo next d i S).l, (sgo next d i S).m) := by
  intro d
  induction d with
  | zero =>
    intro i S hd hS
    have := hS.lt
    exact Ev.step (fun _ => rfl) (ev_neg (by omega) (ev_some _))
  | succ d ih =>
    intro i S hd hS
    refine Ev.step (fun _ => rfl) ?_
    unfold sgo
    by_cases hi : i < S.o.length
    · rw [if_pos hi]
      have hb := hS.ob _ (List.getElem_mem hi)
      obtain ⟨q, hq⟩ : ∃ q : Nat, S.o[i] = (q : Int) := ⟨S.o[i].toNat, by omega⟩
      have e : rd S.o (i : Int) = (q : Int) := by rw [rd_at S.o i hi, hq]
      rw [hq] at hb
      have hr := hv next[q] (List.getElem_mem (by omega))
      refine ev_pos (by omega) (ev_pos (by omega) (ev_pos (by omega) (ev_pos (by omega) ?_)))
      rw [e, rdL_at next q (by omega)]
      refine dsearch_l2 L s fin next n hn i next[q] hr.1 hL hr.2 _ _ 0 S rfl (by omega) hS hi ?_
      rw [List.drop_zero, wrap_succ hi (by have := hS.lt; omega)]
      exact ih (i + 1) _ (by omega) (SI.row _ 0 S hS (by omega) (by omega) (by omega) hr.2)
    · rw [if_neg hi]
      exact ev_neg (by omega) (ev_some _)
theorem dsearch_l0 (L s : Int) (fin : List Bool) (next : List (List Int)) (n : Nat) (hn : n ≤ 512) (h0 : 0 ≤ s) (h1 : s < (n : Int)) (r : List Int × List Int × List Int × List Int)
    (h : Ev (fun k => dfa_search.l1 k (s0 n s).o (s0 n s).f (s0 n s).l (s0 n s).m 0 L s fin next) r) : ∀ (d i : Nat), n - i = d → i ≤ n →
    Ev (fun k => dfa_search.l0 k ((List.replicate n (-1)).take i ++ (List.replicate n 0).drop i) (n : Int) (i : Int) L s fin next) r := by
  have hlen : ∀ i, ((List.replicate n (-1 : Int)).take i ++ (List.replicate n 0).drop i).length = n := fun i => by rw [tk_len (by simp)]; simp
  intro d
  induction d with
  | zero =>
    intro i hd hi
    have hl := hlen i
    refine Ev.step (fun _ => rfl) (ev_neg (by omega) (ev_pos h0 (ev_pos (by omega) ?_)))
    rw [tk_all (by simp; omega) (by simp)]
    exact h
  | succ d ih =>
    intro i hd hi
    have hl := hlen i
    have hlt : i < n := by omega
    refine Ev.step (fun _ => rfl) (ev_pos (by omega) (ev_pos (by omega) (ev_pos (by omega) ?_)))
    have e := tk_set (xs := List.replicate n (-1 : Int)) (ys := List.replicate n 0) (j := i) (by simpa using hlt) (by simp)
    rw [List.getElem_replicate] at e
    rw [Int.toNat_natCast, e, wrap_succ hlt (by omega)]
    exact ih (i + 1) (by omega) (by omega)
theorem dsearch_ev (L s : Int) (fin : List Bool) (next : List (List Int)) (hv : valE L s fin next = 0) : Ev (fun k => dfa_search.f k L s fin next) ((srch s fin next).o, (srch s fin next).f, (srch s fin next).l, (srch s fin next).m) := by
  obtain ⟨v1, v2, v3, v4, v5, v6, v7, v8⟩ := valE_zero hv
  refine ev_pos (by omega) (ev_pos (by omega) (ev_bind0 rfl ?_))
  have h := dsearch_l0 L s fin next fin.length v4 v6 v7 _ (dsearch_l1 L s fin next fin.length v4 v5 v2 v8 fin.length 0 _ rfl (SI.start v6 v7)) _ 0 rfl (by omega)
  rw [List.take_zero, List.drop_zero, List.nil_append] at h
  rw [List.length_replicate]
  exact h

section
variable {L s : Int} {fin : List Bool} {next : List (List Int)}
theorem dinf_l2 (n : Int) (o : List Int) (q : Nat) (xl xi : Int) (row : List Int) (hl : row.length ≤ 1000) (len : Nat) (hq : q < len) (hb : ∀ t ∈ row, 0 ≤ t ∧ t < (len : Int)) (r : Bool) : ∀ (d j : Nat) (lv : List Bool) (fl : Bool), row.length - j = d → j ≤ row.length → lv.length = len →
    Ev (fun k => dfa_Infinite.l1 k n o (lin q (row.drop j) (lv, fl)).1 (lin q (row.drop j) (lv, fl)).2 xl (wrap64 (xi + 1)) L s fin next) r →
    Ev (fun k => dfa_Infinite.l2 k n o lv fl (q : Int) xl xi row (row.length : Int) (j : Int) L s fin next) r := by
  intro d
  induction d with
  | zero =>
    intro j lv fl hd hj hlv h
    rw [List.drop_eq_nil_of_le (by omega)] at h
    exact Ev.step (fun _ => rfl) (ev_neg (by omega) h)
  | succ d ih =>
    intro j lv fl hd hj hlv h
    have hlt : j < row.length := by omega
    have hbt := hb row[j] (List.getElem_mem hlt)
    rw [List.drop_eq_getElem_cons hlt] at h
    have e0 : lin q (row[j] :: row.drop (j + 1)) (lv, fl) = lin q (row.drop (j + 1)) (if rdOf false lv row[j] = true ∧ ¬ rdOf false lv (q : Int) = true then (lv.set q true, true) else (lv, fl)) := rfl
    rw [e0] at h
    refine Ev.step (fun _ => rfl) (ev_pos (by omega) (ev_pos (by omega) (ev_pos (by omega) ?_)))
    rw [rd_at row j hlt, wrap_succ hlt (by omega)]
    refine ev_pos hbt.1 (ev_pos (by omega) ?_)
    by_cases h1 : rdOf false lv row[j] = true
    · refine ev_pos h1 (ev_pos (by omega) (ev_pos (by omega) ?_))
      by_cases h2 : rdOf false lv (q : Int) = true
      · rw [if_neg (fun h => h.2 h2)] at h
        exact ev_pos h2 (ih (j + 1) lv fl (by omega) (by omega) hlv h)
      · rw [if_pos ⟨h1, h2⟩] at h
        exact ev_neg h2 (ih (j + 1) (lv.set q true) true (by omega) (by omega) (by simpa using hlv) h)
    · rw [if_neg (fun h => h1 h.1)] at h
      exact ev_neg h1 (ih (j + 1) lv fl (by omega) (by omega) hlv h)
theorem lin_len (q : Nat) : ∀ (row : List Int) (S : List Bool × Bool), (lin q row S).1.length = S.1.length
  | [], _ => rfl
  | t :: row, S => by
    show (lin q row (if _ then _ else _)).1.length = _
    rw [lin_len q row]
    split <;> simp
theorem dinf_l1 (V : VA L s fin next) (n : Int) (o : List Int) (r : Bool) : ∀ (d q : Nat) (lv : List Bool) (fl : Bool), fin.length - q = d → q ≤ fin.length → lv.length = fin.length →
    Ev (fun k => dfa_Infinite.l0 k n o (lpass (next.drop q) q (lv, fl)).1 (lpass (next.drop q) q (lv, fl)).2 L s fin next) r →
    Ev (fun k => dfa_Infinite.l1 k n o lv fl (fin.length : Int) (q : Int) L s fin next) r := by
  have hnl := V.nl
  have hn5 := V.n5
  have hl6 := V.l6
  intro d
  induction d with
  | zero =>
    intro q lv fl hd hq hlv h
    rw [List.drop_eq_nil_of_le (by omega)] at h
    exact Ev.step (fun _ => rfl) (ev_neg (by omega) h)
  | succ d ih =>
    intro q lv fl hd hq hlv h
    have hlt : q < next.length := by omega
    have hr := V.rw next[q] (List.getElem_mem hlt)
    rw [List.drop_eq_getElem_cons hlt] at h
    have e0 : lpass (next[q] :: next.drop (q + 1)) q (lv, fl) = lpass (next.drop (q + 1)) (q + 1) (lin q next[q] (lv, fl)) := rfl
    rw [e0] at h
    refine Ev.step (fun _ => rfl) (ev_pos (by omega) (ev_pos (by omega) (ev_pos (by omega) ?_)))
    rw [rdL_at next q hlt]
    refine dinf_l2 n o q _ _ next[q] (by omega) fin.length (by omega) hr.2 r _ 0 lv fl rfl (by omega) hlv ?_
    rw [List.drop_zero, wrap_succ hlt (by omega)]
    exact ih (q + 1) (lin q next[q] (lv, fl)).1 (lin q next[q] (lv, fl)).2 (by omega) (by omega) (by rw [lin_len]; exact hlv) h
theorem lpass_len : ∀ (rows : List (List Int)) (q : Nat) (S : List Bool × Bool), (lpass rows q S).1.length = S.1.length
  | [], _, _ => rfl
  | row :: rows, q, S => by
    show (lpass rows (q + 1) (lin q row S)).1.length = _
    rw [lpass_len rows, lin_len]
theorem dinf_l0 (V : VA L s fin next) (o : List Int) (r : Bool) : ∀ (d : Nat) (lv : List Bool), nf lv < d → LI fin next lv →
    Ev (fun k => dfa_Infinite.l0 k (fin.length : Int) o (lfix next d lv) false L s fin next) r →
    Ev (fun k => dfa_Infinite.l0 k (fin.length : Int) o lv true L s fin next) r := by
  have T : ∀ (b : Bool) (lv : List Bool), lv.length = fin.length → b = true → Ev (fun k => dfa_Infinite.l0 k (fin.length : Int) o (lpass next 0 (lv, false)).1 (lpass next 0 (lv, false)).2 L s fin next) r → Ev (fun k => dfa_Infinite.l0 k (fin.length : Int) o lv b L s fin next) r := by
    intro b lv hl e h
    refine Ev.step (fun _ => rfl) (ev_pos e ?_)
    rw [hl]
    exact dinf_l1 V _ o r _ 0 lv false rfl (by omega) hl (by rw [List.drop_zero]; exact h)
  intro d
  induction d with
  | zero => intro lv h; omega
  | succ d ih =>
    intro lv hd hI h
    unfold lfix at h
    refine T true lv hI.len rfl ?_
    obtain ⟨h1, h2⟩ := hI.pass V
    by_cases hc : (lpass next 0 (lv, false)).2 = true
    · rw [if_pos hc] at h
      rw [hc]
      rcases h2 with ⟨_, h3⟩ | ⟨h3, _⟩
      · exact ih _ (by omega) h1 h
      · rw [h3] at hc; cases hc
    · rw [if_neg hc] at h
      rw [Bool.not_eq_true] at hc
      rw [hc]
      exact h
theorem dinf_l6 (q : Nat) (lv : List Bool) (fl : Bool) (xl xi : Int) (row : List Int) (hl : row.length ≤ 1000) (hq : q < lv.length) (hb : ∀ t ∈ row, 0 ≤ t ∧ t < (lv.length : Int)) (r : Bool) (b0 : Bool)
    (h1 : eor lv row b0 = true → Ev (fun k => dfa_Infinite.l5 k lv fl xl (wrap64 (xi + 1)) L s fin next) r)
    (h2 : ¬ eor lv row b0 = true → Ev (fun k => dfa_Infinite.l5 k (lv.set q false) true xl (wrap64 (xi + 1)) L s fin next) r) : ∀ (d j : Nat) (b : Bool), row.length - j = d → j ≤ row.length → eor lv (row.drop j) b = eor lv row b0 →
    Ev (fun k => dfa_Infinite.l6 k lv fl (q : Int) b xl xi row (row.length : Int) (j : Int) L s fin next) r := by
  intro d
  induction d with
  | zero =>
    intro j b hd hj e
    rw [List.drop_eq_nil_of_le (by omega)] at e
    have e : b = eor lv row b0 := e
    refine Ev.step (fun _ => rfl) (ev_neg (by omega) ?_)
    by_cases hc : b = true
    · exact ev_pos hc (h1 (by rw [← e]; exact hc))
    · exact ev_neg hc (ev_pos (by omega) (ev_pos (by omega) (h2 (by rw [← e]; exact hc))))
  | succ d ih =>
    intro j b hd hj e
    have hlt : j < row.length := by omega
    have hbt := hb row[j] (List.getElem_mem hlt)
    rw [List.drop_eq_getElem_cons hlt] at e
    have e : eor lv (row.drop (j + 1)) (b || rdOf false lv row[j]) = eor lv row b0 := e
    refine Ev.step (fun _ => rfl) (ev_pos (by omega) (ev_pos (by omega) (ev_pos (by omega) ?_)))
    rw [rd_at row j hlt, wrap_succ hlt (by omega)]
    by_cases hc : b = true
    · refine ev_pos hc (ih (j + 1) true (by omega) (by omega) ?_)
      rw [hc, Bool.true_or] at e
      exact e
    · refine ev_neg hc (ev_pos hbt.1 (ev_pos hbt.2 (ih (j + 1) _ (by omega) (by omega) ?_)))
      rw [Bool.not_eq_true] at hc
      rw [hc, Bool.false_or] at e
      exact e
theorem dinf_l5 (V : VA L s fin next) (r : Bool) : ∀ (d q : Nat) (lv : List Bool) (fl : Bool), fin.length - q = d → q ≤ fin.length → lv.length = fin.length →
    Ev (fun k => dfa_Infinite.l4 k (rpass (next.drop q) q (lv, fl)).1 (rpass (next.drop q) q (lv, fl)).2 L s fin next) r →
    Ev (fun k => dfa_Infinite.l5 k lv fl (fin.length : Int) (q : Int) L s fin next) r := by
  have hnl := V.nl
  have hn5 := V.n5
  have hl6 := V.l6
  intro d
  induction d with
  | zero =>
    intro q lv fl hd hq hlv h
    rw [List.drop_eq_nil_of_le (by omega)] at h
    exact Ev.step (fun _ => rfl) (ev_neg (by omega) h)
  | succ d ih =>
    intro q lv fl hd hq hlv h
    have hlt : q < next.length := by omega
    have hr := V.rw next[q] (List.getElem_mem hlt)
    rw [List.drop_eq_getElem_cons hlt] at h
    have e0 : rpass (next[q] :: next.drop (q + 1)) q (lv, fl) = rpass (next.drop (q + 1)) (q + 1) (if rdOf false lv (q : Int) = true ∧ ¬ eor lv next[q] false = true then (lv.set q false, true) else (lv, fl)) := rfl
    rw [e0] at h
    refine Ev.step (fun _ => rfl) (ev_pos (by omega) (ev_pos (by omega) (ev_pos (by omega) ?_)))
    by_cases h1 : rdOf false lv (q : Int) = true
    · refine ev_pos h1 (ev_pos (by omega) ?_)
      rw [rdL_at next q hlt]
      refine dinf_l6 q lv fl _ _ next[q] (by omega) (by omega) (by rw [hlv]; exact hr.2) r false (fun h2 => ?_) (fun h2 => ?_) _ 0 false rfl (by omega) (by rw [List.drop_zero])
      · rw [if_neg (fun h => h.2 h2)] at h
        rw [wrap_succ hlt (by omega)]
        exact ih (q + 1) lv fl (by omega) (by omega) hlv h
      · rw [if_pos ⟨h1, h2⟩] at h
        rw [wrap_succ hlt (by omega)]
        exact ih (q + 1) (lv.set q false) true (by omega) (by omega) (by simpa using hlv) h
    · rw [if_neg (fun h => h1 h.1)] at h
      rw [wrap_succ hlt (by omega)]
      exact ev_neg h1 (ih (q + 1) lv fl (by omega) (by omega) hlv h)
theorem dinf_l4 (V : VA L s fin next) : ∀ (d : Nat) (lv : List Bool), nt lv < d → lv.length = fin.length →
    Ev (fun k => dfa_Infinite.l4 k lv true L s fin next) (rdOf false (rfix next d lv) s) := by
  have hs1 := V.s1
  have T : ∀ (b : Bool) (lv : List Bool) (r : Bool), lv.length = fin.length → b = true → Ev (fun k => dfa_Infinite.l4 k (rpass next 0 (lv, false)).1 (rpass next 0 (lv, false)).2 L s fin next) r → Ev (fun k => dfa_Infinite.l4 k lv b L s fin next) r := by
    intro b lv r hl e h
    refine Ev.step (fun _ => rfl) (ev_pos e ?_)
    rw [hl]
    exact dinf_l5 V r _ 0 lv false rfl (by omega) hl (by rw [List.drop_zero]; exact h)
  have F : ∀ (b : Bool) (lv : List Bool), lv.length = fin.length → b = false → Ev (fun k => dfa_Infinite.l4 k lv b L s fin next) (rdOf false lv s) := by
    intro b lv hl e
    exact Ev.step (fun _ => rfl) (ev_neg (by simp [e]) (ev_pos V.s0 (ev_pos (by omega) (ev_some _))))
  intro d
  induction d with
  | zero => intro lv h; omega
  | succ d ih =>
    intro lv hd hl
    unfold rfix
    refine T true lv _ hl rfl ?_
    have h := rpass_ok next fin.length next 0 (lv, false) (by have := V.nl; omega) (by simp) hl
    by_cases hc : (rpass next 0 (lv, false)).2 = true
    · rw [if_pos hc]
      rw [hc]
      rcases h.1.chg with e | ⟨_, e2⟩
      · rw [e] at hc; cases hc
      · have e3 : nt (rpass next 0 (lv, false)).1 < nt lv := e2
        exact ih _ (by omega) (h.1.len.trans hl)
    · rw [if_neg hc]
      rw [Bool.not_eq_true] at hc
      exact F _ _ (h.1.len.trans hl) hc
theorem dinf_l3 (V : VA L s fin next) (lv : List Bool) (hlv : lv.length = fin.length) (o : List Int) (ho : ∀ q ∈ o, 0 ≤ q ∧ q < (fin.length : Int)) (hol : o.length ≤ 1000) (r : Bool) : ∀ (d i : Nat) (m : List Bool), o.length - i = d → i ≤ o.length → m.length = fin.length →
    Ev (fun k => dfa_Infinite.l4 k (lfill lv (o.drop i) m) true L s fin next) r →
    Ev (fun k => dfa_Infinite.l3 k lv m o (o.length : Int) (i : Int) L s fin next) r := by
  intro d
  induction d with
  | zero =>
    intro i m hd hi hm h
    rw [List.drop_eq_nil_of_le (by omega)] at h
    exact Ev.step (fun _ => rfl) (ev_neg (by omega) h)
  | succ d ih =>
    intro i m hd hi hm h
    have hlt : i < o.length := by omega
    have hb := ho o[i] (List.getElem_mem hlt)
    rw [List.drop_eq_getElem_cons hlt] at h
    refine Ev.step (fun _ => rfl) (ev_pos (by omega) (ev_pos (by omega) (ev_pos (by omega) ?_)))
    rw [rd_at o i hlt, wrap_succ hlt (by omega)]
    exact ev_pos hb.1 (ev_pos (by omega) (ev_pos (by omega) (ih (i + 1) _ (by omega) (by omega) (by simpa using hm) h)))
theorem dinf_ev (L s : Int) (fin : List Bool) (next : List (List Int)) : Ev (fun k => dfa_Infinite.f k L s fin next) (if valE L s fin next = 0 then infB s fin next (lfix next (fin.length + 1) fin) else false) := by
  refine ev_bind (dval_ev _ _ _ _) ?_
  by_cases hv : valE L s fin next = 0
  · rw [if_pos hv]
    have V := VA.of hv
    have hS := SI.srch hv
    have hlt := hS.lt
    have hn5 := V.n5
    refine ev_pos hv (ev_bind (dsearch_ev L s fin next hv) (ev_pos (by omega) (ev_pos (by omega) ?_)))
    have e : copyL (List.replicate ((fin.length : Int)).toNat false) fin = fin := by simp [copyL]
    rw [e]
    have hnf : nf fin < fin.length + 1 := by
      have := List.countP_le_length (p := fun b => !b) (l := fin)
      unfold nf; omega
    have hI := lfix_ok V (fin.length + 1) fin (LI.start fin next) hnf
    refine dinf_l0 V _ _ (fin.length + 1) fin hnf (LI.start fin next) ?_
    have hf := lfill_ok (lfix next (fin.length + 1) fin) fin.length (srch s fin next).o (List.replicate fin.length false) (by simp) hS.ob
    have hnt : nt (lfill (lfix next (fin.length + 1) fin) (srch s fin next).o (List.replicate fin.length false)) < fin.length + 1 := by
      have := List.countP_le_length (p := fun b => b) (l := lfill (lfix next (fin.length + 1) fin) (srch s fin next).o (List.replicate fin.length false))
      rw [hf.1] at this
      unfold nt; omega
    have F : ∀ b : Bool, b = false → Ev (fun k => dfa_Infinite.l0 k (fin.length : Int) (srch s fin next).o (lfix next (fin.length + 1) fin) b L s fin next) (infB s fin next (lfix next (fin.length + 1) fin)) := by
      intro b eb
      refine Ev.step (fun _ => rfl) (ev_neg (by simp [eb]) (ev_pos (by omega) (ev_pos (by omega) ?_)))
      refine dinf_l3 V _ hI.1 (srch s fin next).o hS.ob (by omega) _ _ 0 _ rfl (by omega) (by simp) ?_
      rw [List.drop_zero]
      exact dinf_l4 V (fin.length + 1) _ hnt hf.1
    exact F _ rfl
  · rw [if_neg hv]
    exact ev_neg hv (ev_some _)
end

theorem raccess_l1 (L s : Int) (fin : List Bool) (next : List (List Int)) (n : Nat) (hn : n ≤ 512) (hnl : next.length = n) (i : Nat) (x : Int) (hx : 0 ≤ x ∧ x < (n : Int)) (row : List Int) (hrow : rd_L1 next x = row) (hl : (row.length : Int) = L) (hL : L ≤ 6) (hq : ∀ q ∈ row, 0 ≤ q ∧ q < (n : Int)) (r : List Int × List ByteArray) : ∀ (d j : Nat) (S : SS), row.length - j = d → j ≤ row.length → SI n L S → WI S → i < S.o.length → rd S.o (i : Int) = x →
    Ev (fun k => semigroupref07_Access.l0 k (srow (i : Int) j (row.drop j) S).o (wds (srow (i : Int) j (row.drop j) S)) (mt (srow (i : Int) j (row.drop j) S).m) (wrap64 ((i : Int) + 1)) L s fin next) r →
    Ev (fun k => semigroupref07_Access.l1 k S.o (wds S) (mt S.m) (i : Int) (j : Int) L s fin next) r := by
  intro d
  induction d with
  | zero =>
    intro j S hd hj hS hw hi hxi h
    rw [List.drop_eq_nil_of_le (by omega)] at h
    exact Ev.step (fun _ => rfl) (ev_neg (by omega) h)
  | succ d ih =>
    intro j S hd hj hS hw hi hxi h
    have hlt : j < row.length := by omega
    have hb := hq row[j] (List.getElem_mem hlt)
    rw [List.drop_eq_getElem_cons hlt] at h
    have hlen := hS.lt
    have hml := hS.ml
    have hwl := hw.wl
    have hS' := hS.step (i := (i : Int)) (a := (j : Int)) (q := row[j]) (by omega) (by omega) ⟨by omega, by omega⟩ hb
    have hw' := hw.step hS (i : Int) (j : Int) row[j] (by omega) (by omega)
    have hp := (sk_pre (i : Int) (j : Int) S row[j]).length_le
    have hx' : rd (sk (i : Int) (j : Int) S row[j]).o (i : Int) = x := by rw [rd_pre (sk_pre _ _ _ _) (by omega) (by omega)]; exact hxi
    have IH := ih (j + 1) _ (by omega) (by omega) hS' hw' (by omega) hx' h
    refine Ev.step (fun _ => rfl) (ev_pos (by omega) (ev_pos (by omega) (ev_pos (by omega) (ev_pos (by omega) (ev_pos (by omega) (ev_pos (by omega) ?_))))))
    rw [hxi, hrow, rd_at row j hlt, wrap_succ hlt (by omega)]
    refine ev_pos (by omega) (ev_pos hb.1 (ev_pos (by simp [mt]; omega) ?_))
    rw [mt_at hb.1 (by omega)]
    by_cases h1 : rd S.m row[j] < 0
    · have e := wds_snoc hS (i : Int) (j : Int) row[j] h1
      rw [e] at IH
      unfold sk at IH
      rw [if_pos h1] at IH
      refine ev_neg (by simpa using h1) (ev_bind0 rfl (ev_pos (by simp; omega) (ev_pos (by omega) (ev_bind0 rfl (ev_pos ?_ (ev_bind0 rfl (ev_pos (by simp; omega) ?_)))))))
      · have hz := hw.wz _ (List.getElem_mem (show i < (wds S).length by omega))
        rw [rdOf_at _ _ i (by omega)]
        show _ + 1 ≤ _
        omega
      · rw [mt_set _ _ _ (by omega)] at IH
        exact IH
    · unfold sk at IH
      rw [if_neg h1] at IH
      exact ev_pos (by simpa using h1) IH
theorem raccess_l0 (L s : Int) (fin : List Bool) (next : List (List Int)) (n : Nat) (hn : n ≤ 512) (hnl : next.length = n) (hL : L ≤ 6) (hv : ∀ row ∈ next, (row.length : Int) = L ∧ ∀ q ∈ row, 0 ≤ q ∧ q < (n : Int)) : ∀ (d i : Nat) (S : SS), n - i = d → SI n L S → WI S →
    WI (sgo next d i S) ∧ Ev (fun k => semigroupref07_Access.l0 k S.o (wds S) (mt S.m) (i : Int) L s fin next) ((sgo next d i S).o, wds (sgo next d i S)) := by
  intro d
  induction d with
  | zero =>
    intro i S hd hS hw
    have := hS.lt
    exact ⟨hw, Ev.step (fun _ => rfl) (ev_neg (by omega) (ev_some _))⟩
  | succ d ih =>
    intro i S hd hS hw
    unfold sgo
    by_cases hi : i < S.o.length
    · rw [if_pos hi]
      have hb := hS.ob _ (List.getElem_mem hi)
      obtain ⟨q, hq⟩ : ∃ q : Nat, S.o[i] = (q : Int) := ⟨S.o[i].toNat, by omega⟩
      have e : rd S.o (i : Int) = (q : Int) := by rw [rd_at S.o i hi, hq]
      rw [hq] at hb
      have hr := hv next[q] (List.getElem_mem (by omega))
      rw [e, rdL_at next q (by omega)]
      have hS' := SI.row (i := (i : Int)) next[q] 0 S hS (by omega) (by omega) (by omega) hr.2
      have IH := ih (i + 1) _ (by omega) hS' (WI.row (i := (i : Int)) next[q] 0 S hS hw (by omega) (by omega) (by omega) hr.2)
      refine ⟨IH.1, Ev.step (fun _ => rfl) (ev_pos (by omega) ?_)⟩
      refine raccess_l1 L s fin next n hn hnl i (q : Int) hb next[q] (rdL_at next q (by omega)) hr.1 hL hr.2 _ _ 0 S rfl (by omega) hS hw hi e ?_
      rw [List.drop_zero, wrap_succ hi (by have := hS.lt; omega)]
      exact IH.2
    · rw [if_neg hi]
      exact ⟨hw, Ev.step (fun _ => rfl) (ev_neg (by omega) (ev_some _))⟩
theorem raccess_ev (L s : Int) (fin : List Bool) (next : List (List Int)) (hv : valE L s fin next = 0) : Ev (fun k => semigroupref07_Access.f k L s fin next) ((srch s fin next).o, wds (srch s fin next)) := by
  obtain ⟨v1, v2, v3, v4, v5, v6, v7, v8⟩ := valE_zero hv
  refine ev_pos (by omega) (ev_pos (by omega) (ev_bind0 rfl (ev_pos v6 (ev_pos (by simp; omega) ?_))))
  have h := (raccess_l0 L s fin next fin.length v4 v5 v2 v8 fin.length 0 _ rfl (SI.start v6 v7) (WI.start _ _)).2
  have e : mt (s0 fin.length s).m = (List.replicate fin.length false).set s.toNat true := by
    show mt ((List.replicate fin.length (-1)).set s.toNat 0) = _
    rw [mt_set _ _ _ (by omega)]
    simp [mt]
  rw [e] at h
  exact h

section
variable {L s : Int} {fin : List Bool} {next : List (List Int)}
theorem set_same (lv : List Bool) (q : Nat) (h : q < lv.length) : lv.set q (rdOf false lv (q : Int)) = lv := by
  rw [rdOf_get false lv q h, List.set_getElem_self]
theorem rlive_l2 (x13 x14 : Int) (q : Nat) (xl xi : Int) (row : List Int) (hl : row.length ≤ 1000) (len : Nat) (hq : q < len) (hb : ∀ t ∈ row, 0 ≤ t ∧ t < (len : Int)) (r : List Bool) : ∀ (d j : Nat) (lv : List Bool) (fl : Bool), row.length - j = d → j ≤ row.length → lv.length = len →
    Ev (fun k => semigroupref07_Live.l1 k (lin q (row.drop j) (lv, fl)).1 x13 x14 xl (wrap64 (xi + 1)) L s fin next) r →
    Ev (fun k => semigroupref07_Live.l2 k lv (q : Int) x13 x14 xl xi row (row.length : Int) (j : Int) L s fin next) r := by
  intro d
  induction d with
  | zero =>
    intro j lv fl hd hj hlv h
    rw [List.drop_eq_nil_of_le (by omega)] at h
    exact Ev.step (fun _ => rfl) (ev_neg (by omega) h)
  | succ d ih =>
    intro j lv fl hd hj hlv h
    have hlt : j < row.length := by omega
    have hbt := hb row[j] (List.getElem_mem hlt)
    rw [List.drop_eq_getElem_cons hlt] at h
    have e0 : lin q (row[j] :: row.drop (j + 1)) (lv, fl) = lin q (row.drop (j + 1)) (if rdOf false lv row[j] = true ∧ ¬ rdOf false lv (q : Int) = true then (lv.set q true, true) else (lv, fl)) := rfl
    rw [e0] at h
    have hs := set_same lv q (by omega)
    refine Ev.step (fun _ => rfl) (ev_pos (by omega) (ev_pos (by omega) (ev_pos (by omega) (ev_pos (by omega) (ev_pos (by omega) ?_)))))
    rw [rd_at row j hlt, wrap_succ hlt (by omega), Int.toNat_natCast]
    by_cases h2 : rdOf false lv (q : Int) = true
    · rw [if_neg (fun h => h.2 h2)] at h
      rw [h2] at hs
      rw [hs]
      exact ev_pos h2 (ih (j + 1) lv fl (by omega) (by omega) hlv h)
    · refine ev_neg h2 (ev_pos hbt.1 (ev_pos (by omega) ?_))
      by_cases h1 : rdOf false lv row[j] = true
      · rw [if_pos ⟨h1, h2⟩] at h
        rw [h1]
        exact ih (j + 1) (lv.set q true) true (by omega) (by omega) (by simpa using hlv) h
      · rw [if_neg (fun h => h1 h.1)] at h
        rw [Bool.not_eq_true] at h1 h2
        rw [h2] at hs
        rw [h1, hs]
        exact ih (j + 1) lv fl (by omega) (by omega) hlv h
theorem lin_len' (q : Nat) : ∀ (row : List Int) (S : List Bool × Bool), (lin q row S).1.length = S.1.length
  | [], _ => rfl
  | t :: row, S => by
    show (lin q row (if _ then _ else _)).1.length = _
    rw [lin_len' q row]
    split <;> simp
theorem lpass_len' : ∀ (rows : List (List Int)) (q : Nat) (S : List Bool × Bool), (lpass rows q S).1.length = S.1.length
  | [], _, _ => rfl
  | row :: rows, q, S => by
    show (lpass rows (q + 1) (lin q row S)).1.length = _
    rw [lpass_len' rows, lin_len']
theorem rlive_l1 (V : VA L s fin next) (x13 x14 : Int) (r : List Bool) : ∀ (d q : Nat) (lv : List Bool) (fl : Bool), fin.length - q = d → q ≤ fin.length → lv.length = fin.length →
    Ev (fun k => semigroupref07_Live.l0 k (lpass (next.drop q) q (lv, fl)).1 x13 (wrap64 (x14 + 1)) L s fin next) r →
    Ev (fun k => semigroupref07_Live.l1 k lv x13 x14 (fin.length : Int) (q : Int) L s fin next) r := by
  have hnl := V.nl
  have hn5 := V.n5
  have hl6 := V.l6
  intro d
  induction d with
  | zero =>
    intro q lv fl hd hq hlv h
    rw [List.drop_eq_nil_of_le (by omega)] at h
    exact Ev.step (fun _ => rfl) (ev_neg (by omega) h)
  | succ d ih =>
    intro q lv fl hd hq hlv h
    have hlt : q < next.length := by omega
    have hr := V.rw next[q] (List.getElem_mem hlt)
    rw [List.drop_eq_getElem_cons hlt] at h
    have e0 : lpass (next[q] :: next.drop (q + 1)) q (lv, fl) = lpass (next.drop (q + 1)) (q + 1) (lin q next[q] (lv, fl)) := rfl
    rw [e0] at h
    refine Ev.step (fun _ => rfl) (ev_pos (by omega) (ev_pos (by omega) (ev_pos (by omega) ?_)))
    rw [rdL_at next q hlt]
    refine rlive_l2 x13 x14 q _ _ next[q] (by omega) fin.length (by omega) hr.2 r _ 0 lv fl rfl (by omega) hlv ?_
    rw [List.drop_zero, wrap_succ hlt (by omega)]
    exact ih (q + 1) (lin q next[q] (lv, fl)).1 (lin q next[q] (lv, fl)).2 (by omega) (by omega) (by rw [lin_len']; exact hlv) h
theorem rlive_l0 (V : VA L s fin next) : ∀ (d i : Nat) (lv : List Bool), fin.length - i = d → i ≤ fin.length → lv.length = fin.length →
    Ev (fun k => semigroupref07_Live.l0 k lv (fin.length : Int) (i : Int) L s fin next) (liter next d lv) := by
  have hn5 := V.n5
  intro d
  induction d with
  | zero =>
    intro i lv hd hi hlv
    exact Ev.step (fun _ => rfl) (ev_neg (by omega) (ev_some _))
  | succ d ih =>
    intro i lv hd hi hlv
    have hlt : i < fin.length := by omega
    refine Ev.step (fun _ => rfl) (ev_pos (by omega) ?_)
    rw [hlv]
    refine rlive_l1 V _ _ _ _ 0 lv false rfl (by omega) hlv ?_
    rw [List.drop_zero, wrap_succ hlt (by omega)]
    exact ih (i + 1) _ (by omega) (by omega) (by rw [lpass_len']; exact hlv)
theorem rlive_ev (V : VA L s fin next) : Ev (fun k => semigroupref07_Live.f k L s fin next) (liter next fin.length fin) := by
  have hn5 := V.n5
  refine ev_bind0 rfl (ev_pos (by simp; omega) (ev_bind0 rfl ?_))
  rw [List.nil_append]
  exact rlive_l0 V fin.length 0 fin rfl (by omega) rfl
def rinfB (fin : List Bool) (next : List (List Int)) (lv : List Bool) (o : List Int) : Bool := o.any (fun q => rdOf false lv q && (srch q fin next).o.any (fun p => (rd_L1 next p).any (fun t => decide (t = q)) && rdOf false lv p))
theorem rinf_l2 (V : VA L s fin next) (lv : List Bool) (hlv : lv.length = fin.length) (q p : Int) (hp : 0 ≤ p ∧ p < (fin.length : Int)) (x22 : List Int) (x23 x24 : Int) (x41 : List Int) (x42 x43 : Int) (row : List Int) (hl : row.length ≤ 1000) (r : Bool) : ∀ (d j : Nat), row.length - j = d → j ≤ row.length →
    (((row.drop j).any (fun t => decide (t = q)) && rdOf false lv p) = true → r = true) → (((row.drop j).any (fun t => decide (t = q)) && rdOf false lv p) = false → Ev (fun k => semigroupref07_Infinite.l1 k lv q x22 x23 x24 x41 x42 (wrap64 (x43 + 1)) L s fin next) r) →
    Ev (fun k => semigroupref07_Infinite.l2 k lv q p x22 x23 x24 x41 x42 x43 row (row.length : Int) (j : Int) L s fin next) r := by
  intro d
  induction d with
  | zero =>
    intro j hd hj h1 h2
    rw [List.drop_eq_nil_of_le (by omega)] at h2
    exact Ev.step (fun _ => rfl) (ev_neg (by omega) (h2 rfl))
  | succ d ih =>
    intro j hd hj h1 h2
    have hlt : j < row.length := by omega
    rw [List.drop_eq_getElem_cons hlt, List.any_cons] at h1 h2
    refine Ev.step (fun _ => rfl) (ev_pos (by omega) (ev_pos (by omega) (ev_pos (by omega) ?_)))
    rw [rd_at row j hlt, wrap_succ hlt (by omega)]
    by_cases hc : row[j] = q
    · rw [decide_eq_true hc, Bool.true_or, Bool.true_and] at h1 h2
      refine ev_pos hc (ev_pos hp.1 (ev_pos (by omega) ?_))
      by_cases h3 : rdOf false lv p = true
      · exact ev_pos h3 (ev_eq (ev_some _) (h1 h3).symm)
      · have h4 := h2 (by simpa using h3)
        rw [Bool.not_eq_true] at h3
        exact ev_neg (by simp [h3]) (ih (j + 1) (by omega) (by omega) (by rw [h3]; simp) (fun _ => h4))
    · rw [decide_eq_false hc, Bool.false_or] at h1 h2
      exact ev_neg hc (ih (j + 1) (by omega) (by omega) h1 h2)
theorem rinf_l1 (V : VA L s fin next) (lv : List Bool) (hlv : lv.length = fin.length) (q : Int) (x22 : List Int) (x23 x24 : Int) (os : List Int) (hos : ∀ p ∈ os, 0 ≤ p ∧ p < (fin.length : Int)) (hol : os.length ≤ 1000) (r : Bool) : ∀ (d j : Nat), os.length - j = d → j ≤ os.length →
    ((os.drop j).any (fun p => (rd_L1 next p).any (fun t => decide (t = q)) && rdOf false lv p) = true → r = true) → ((os.drop j).any (fun p => (rd_L1 next p).any (fun t => decide (t = q)) && rdOf false lv p) = false → Ev (fun k => semigroupref07_Infinite.l0 k lv x22 x23 (wrap64 (x24 + 1)) L s fin next) r) →
    Ev (fun k => semigroupref07_Infinite.l1 k lv q x22 x23 x24 os (os.length : Int) (j : Int) L s fin next) r := by
  intro d
  induction d with
  | zero =>
    intro j hd hj h1 h2
    rw [List.drop_eq_nil_of_le (by omega)] at h2
    exact Ev.step (fun _ => rfl) (ev_neg (by omega) (h2 rfl))
  | succ d ih =>
    intro j hd hj h1 h2
    have hlt : j < os.length := by omega
    have hb := hos os[j] (List.getElem_mem hlt)
    have hr := V.row hb.1 hb.2
    have hnl := V.nl
    have hl6 := V.l6
    rw [List.drop_eq_getElem_cons hlt, List.any_cons] at h1 h2
    refine Ev.step (fun _ => rfl) (ev_pos (by omega) (ev_pos (by omega) (ev_pos (by omega) ?_)))
    rw [rd_at os j hlt]
    refine ev_pos hb.1 (ev_pos (by omega) (rinf_l2 V lv hlv q os[j] hb x22 x23 x24 os _ _ _ (by omega) r _ 0 rfl (by omega) (fun h => ?_) (fun h => ?_)))
    · rw [List.drop_zero] at h
      exact h1 (by rw [h, Bool.true_or])
    · rw [List.drop_zero] at h
      rw [h, Bool.false_or] at h1 h2
      rw [wrap_succ hlt (by omega)]
      exact ih (j + 1) (by omega) (by omega) h1 h2
theorem rinf_l0 (V : VA L s fin next) (lv : List Bool) (hlv : lv.length = fin.length) (o : List Int) (ho : ∀ p ∈ o, 0 ≤ p ∧ p < (fin.length : Int)) (hol : o.length ≤ 1000) : ∀ (d j : Nat), o.length - j = d → j ≤ o.length →
    Ev (fun k => semigroupref07_Infinite.l0 k lv o (o.length : Int) (j : Int) L s fin next) (rinfB fin next lv (o.drop j)) := by
  intro d
  induction d with
  | zero =>
    intro j hd hj
    rw [List.drop_eq_nil_of_le (by omega)]
    exact Ev.step (fun _ => rfl) (ev_neg (by omega) (ev_some _))
  | succ d ih =>
    intro j hd hj
    have hlt : j < o.length := by omega
    have hb := ho o[j] (List.getElem_mem hlt)
    have hnl := V.nl
    have IH := ih (j + 1) (by omega) (by omega)
    rw [List.drop_eq_getElem_cons hlt]
    unfold rinfB at IH ⊢
    rw [List.any_cons]
    refine Ev.step (fun _ => rfl) (ev_pos (by omega) (ev_pos (by omega) (ev_pos (by omega) ?_)))
    rw [rd_at o j hlt]
    refine ev_pos hb.1 (ev_pos (by omega) ?_)
    by_cases h1 : rdOf false lv o[j] = true
    · have hv := V.val hb.1 hb.2
      have hS := SI.srch hv
      have hlt' := hS.lt
      have hn5 := V.n5
      refine ev_pos h1 (ev_bind (raccess_ev L o[j] fin next hv) ?_)
      rw [h1, Bool.true_and]
      refine rinf_l1 V lv hlv o[j] o _ _ (srch o[j] fin next).o hS.ob (by omega) _ _ 0 rfl (by omega) (fun h => ?_) (fun h => ?_)
      · rw [List.drop_zero] at h
        rw [h, Bool.true_or]
      · rw [List.drop_zero] at h
        rw [h, Bool.false_or, wrap_succ hlt (by omega)]
        exact IH
    · rw [Bool.not_eq_true] at h1
      refine ev_neg (by simp [h1]) ?_
      rw [h1, Bool.false_and, Bool.false_or, wrap_succ hlt (by omega)]
      exact IH
theorem rinf_ev (hv : valE L s fin next = 0) : Ev (fun k => semigroupref07_Infinite.f k L s fin next) (rinfB fin next (liter next fin.length fin) (srch s fin next).o) := by
  have V := VA.of hv
  have hS := SI.srch hv
  have hlt := hS.lt
  have hn5 := V.n5
  have hnf : nf fin ≤ fin.length := List.countP_le_length
  have hI := liter_ok V fin.length fin (LI.start fin next) hnf
  refine ev_bind (rlive_ev V) (ev_bind (raccess_ev L s fin next hv) ?_)
  have := rinf_l0 V (liter next fin.length fin) hI.1 (srch s fin next).o hS.ob (by omega) _ 0 rfl (by omega)
  rwa [List.drop_zero] at this
theorem Rt.cases_last {next : List (List Int)} {a b c : Int} (h : b ∈ rd_L1 next a) (k : Rt next b c) : ∃ p, Rt next a p ∧ c ∈ rd_L1 next p := by
  induction k generalizing a with
  | refl _ => exact ⟨a, .refl a, h⟩
  | step h2 k ih =>
    obtain ⟨p, hp, hc⟩ := ih h2
    exact ⟨p, .step h hp, hc⟩
theorem rinfB_iff (hv : valE L s fin next = 0) {lv : List Bool} (hl : IsLv fin next lv) : rinfB fin next lv (srch s fin next).o = true ↔ Inf s fin next := by
  have V := VA.of hv
  unfold rinfB
  simp only [List.any_eq_true, Bool.and_eq_true, decide_eq_true_eq, exists_eq_right]
  constructor
  · rintro ⟨q, hq, h1, p, hp, h2, h3⟩
    have hr := (srch_iff hv q).1 hq
    have hb := V.rt hr ⟨V.s0, V.s1⟩
    have hrp := (srch_iff (V.val hb.1 hb.2) p).1 hp
    refine ⟨q, hr, (hl.2 q hb.1 hb.2).1 h1, ?_⟩
    cases hrp with
    | refl _ => exact ⟨q, h2, .refl q⟩
    | step h k => exact ⟨_, h, k.snoc h2⟩
  · rintro ⟨q, hr, hlq, t, ht, htq⟩
    have hb := V.rt hr ⟨V.s0, V.s1⟩
    obtain ⟨p, hp, hpq⟩ := Rt.cases_last ht htq
    have hbp := V.rt hp hb
    refine ⟨q, (srch_iff hv q).2 hr, (hl.2 q hb.1 hb.2).2 hlq, p, (srch_iff (V.val hb.1 hb.2) p).2 hp, hpq, (hl.2 p hbp.1 hbp.2).2 ?_⟩
    obtain ⟨u, hu, hf⟩ := hlq
    exact ⟨u, .step hpq hu, hf⟩
end

/-- One round of counting: from each state its ways go along its row. -/
def cset (k : Int) (nx : List Int) (q : Int) : List Int := nx.set q.toNat (Int.tmod (wrap64 (rd nx q + k)) 2305843009213693951)
def crow (k : Int) (nx row : List Int) : List Int := row.foldl (cset k) nx
def cstep : List (List Int) → List Int → List Int → List Int
  | row :: rows, w :: ws, nx => cstep rows ws (crow w nx row)
  | _, _, nx => nx
def cwalk (rows : List (List Int)) : Nat → List Int → List Int
  | 0, ws => ws
  | n + 1, ws => cwalk rows n (cstep rows ws (List.replicate ws.length 0))
def csum : List Bool → List Int → Int → Int
  | b :: bs, w :: ws, acc => csum bs ws (if b = true then Int.tmod (wrap64 (acc + w)) 2305843009213693951 else acc)
  | _, _, acc => acc
theorem crow_length (k : Int) : ∀ (row nx : List Int), (crow k nx row).length = nx.length
  | [], _ => rfl
  | q :: row, nx => by
    show (crow k (cset k nx q) row).length = _
    rw [crow_length k row]
    simp [cset]
theorem cstep_length : ∀ (rows : List (List Int)) (ws nx : List Int), (cstep rows ws nx).length = nx.length
  | [], _, _ => rfl
  | _ :: _, [], _ => rfl
  | row :: rows, w :: ws, nx => by
    show (cstep rows ws (crow w nx row)).length = _
    rw [cstep_length rows ws, crow_length]
theorem cwalk_length (rows : List (List Int)) : ∀ (n : Nat) (ws : List Int), (cwalk rows n ws).length = ws.length
  | 0, _ => rfl
  | n + 1, ws => by
    show (cwalk rows n _).length = _
    rw [cwalk_length rows n, cstep_length, List.length_replicate]
theorem dcount_l2 (x1 x8 : Int) (x40 : List Int) (x41 x42 L s : Int) (fin : List Bool) (next : List (List Int)) (row : List Int) (hl : row.length ≤ 1000) (n : Nat) (hq : ∀ q ∈ row, 0 ≤ q ∧ q < (n : Int)) (r : Int) : ∀ (d j : Nat) (nx : List Int), row.length - j = d → j ≤ row.length → nx.length = n →
    Ev (fun k => dfa_Count.l1 k x1 (crow x8 nx (row.drop j)) x40 x41 (wrap64 (x42 + 1)) L s fin next) r →
    Ev (fun k => dfa_Count.l2 k x1 nx x8 x40 x41 x42 row (row.length : Int) (j : Int) L s fin next) r := by
  intro d
  induction d with
  | zero =>
    intro j nx hd hj hn h
    rw [List.drop_eq_nil_of_le (by omega)] at h
    exact Ev.step (fun _ => rfl) (ev_neg (by omega) h)
  | succ d ih =>
    intro j nx hd hj hn h
    have hlt : j < row.length := by omega
    have hb := hq row[j] (List.getElem_mem hlt)
    rw [List.drop_eq_getElem_cons hlt] at h
    refine Ev.step (fun _ => rfl) (ev_pos (by omega) (ev_pos (by omega) (ev_pos (by omega) ?_)))
    rw [rd_at row j hlt, wrap_succ hlt (by omega)]
    exact ev_pos hb.1 (ev_pos (by omega) (ih (j + 1) (cset x8 nx row[j]) (by omega) (by omega) (by simp [cset, hn]) h))
theorem dcount_l1 (x1 L s : Int) (fin : List Bool) (next : List (List Int)) (hr : next.length ≤ 1000) (hL : ∀ row ∈ next, row.length ≤ 1000 ∧ ∀ q ∈ row, 0 ≤ q ∧ q < (next.length : Int)) (ws : List Int) (hw : ws.length = next.length) (r : Int) : ∀ (d i : Nat) (nx : List Int), next.length - i = d → i ≤ next.length → nx.length = next.length →
    Ev (fun k => dfa_Count.l0 k (wrap64 (x1 - 1)) (cstep (next.drop i) (ws.drop i) nx) L s fin next) r →
    Ev (fun k => dfa_Count.l1 k x1 nx ws (ws.length : Int) (i : Int) L s fin next) r := by
  intro d
  induction d with
  | zero =>
    intro i nx hd hi hn h
    rw [List.drop_eq_nil_of_le (by omega)] at h
    exact Ev.step (fun _ => rfl) (ev_neg (by omega) h)
  | succ d ih =>
    intro i nx hd hi hn h
    have hlt : i < next.length := by omega
    have hb := hL next[i] (List.getElem_mem hlt)
    rw [List.drop_eq_getElem_cons hlt, List.drop_eq_getElem_cons (show i < ws.length by omega)] at h
    refine Ev.step (fun _ => rfl) (ev_pos (by omega) (ev_pos (by omega) (ev_pos (by omega) (ev_pos (by omega) ?_))))
    rw [rdL_at next i hlt, rd_at ws i (by omega)]
    refine dcount_l2 x1 ws[i] ws _ i L s fin next next[i] hb.1 next.length hb.2 r _ 0 nx rfl (by omega) hn ?_
    rw [List.drop_zero, wrap_succ hlt (by omega)]
    exact ih (i + 1) _ (by omega) (by omega) (by rw [crow_length]; exact hn) h
theorem dcount_l3 (L s : Int) (fin : List Bool) (next : List (List Int)) (ws : List Int) (hw : ws.length = fin.length) (hf : fin.length ≤ 1000) : ∀ (d i : Nat) (acc : Int), fin.length - i = d → i ≤ fin.length →
    Ev (fun k => dfa_Count.l3 k acc ws (ws.length : Int) (i : Int) L s fin next) (csum (fin.drop i) (ws.drop i) acc) := by
  intro d
  induction d with
  | zero =>
    intro i acc hd hi
    rw [List.drop_eq_nil_of_le (by omega)]
    exact Ev.step (fun _ => rfl) (ev_neg (by omega) (ev_some acc))
  | succ d ih =>
    intro i acc hd hi
    have hlt : i < fin.length := by omega
    rw [List.drop_eq_getElem_cons hlt, List.drop_eq_getElem_cons (show i < ws.length by omega)]
    refine Ev.step (fun _ => rfl) (ev_pos (by omega) (ev_pos (by omega) (ev_pos (by omega) (ev_pos (by omega) ?_))))
    rw [rd_at ws i (by omega), wrap_succ hlt (by omega), show rdOf false fin (i : Int) = fin[i] from by simp [rdOf, List.getD, hlt]]
    by_cases hb : fin[i] = true
    · refine ev_pos hb (ev_eq (ih (i + 1) _ (by omega) (by omega)) ?_)
      show _ = csum _ _ (if fin[i] = true then _ else acc)
      rw [if_pos hb]
    · refine ev_neg hb (ev_eq (ih (i + 1) _ (by omega) (by omega)) ?_)
      show _ = csum _ _ (if fin[i] = true then _ else acc)
      rw [if_neg hb]
/-- How many words of length n are accepted. -/
def cntE (s : Int) (fin : List Bool) (next : List (List Int)) (n : Nat) : Int := csum fin (cwalk next n ((List.replicate fin.length 0).set s.toNat 1)) 0
theorem dcount_l0 (L s : Int) (fin : List Bool) (next : List (List Int)) (hf : fin.length ≤ 1000) (hn : next.length = fin.length) (hL : ∀ row ∈ next, row.length ≤ 1000 ∧ ∀ q ∈ row, 0 ≤ q ∧ q < (next.length : Int)) : ∀ (n : Nat) (ws : List Int), ws.length = fin.length → n ≤ 10000 →
    Ev (fun k => dfa_Count.l0 k (n : Int) ws L s fin next) (csum fin (cwalk next n ws) 0) := by
  intro n
  induction n with
  | zero =>
    intro ws hw _
    obtain ⟨z, hz⟩ : ∃ z : Int, z = ((0 : Nat) : Int) := ⟨_, rfl⟩
    rw [← hz]
    refine Ev.step (fun _ => rfl) (ev_neg (by omega) ?_)
    have := dcount_l3 L s fin next ws hw hf _ 0 0 rfl (by omega)
    rwa [List.drop_zero, List.drop_zero] at this
  | succ n ih =>
    intro ws hw hn'
    refine Ev.step (fun _ => rfl) (ev_pos (by omega) (ev_pos (by omega) (ev_pos (by omega) ?_)))
    refine dcount_l1 _ L s fin next (by omega) hL ws (by omega) _ _ 0 _ rfl (by omega) (by simp; omega) ?_
    rw [List.drop_zero, List.drop_zero, wrap_in (by omega) (by omega), show (((n + 1 : Nat) : Int) - 1) = (n : Int) by omega, show ((ws.length : Int)).toNat = ws.length from rfl]
    exact ih _ (by rw [cstep_length, List.length_replicate]; exact hw) (by omega)
theorem dcount_ev (L s : Int) (fin : List Bool) (next : List (List Int)) (n : Int) : Ev (fun k => dfa_Count.f k L s fin next n) (if valE L s fin next = 0 ∧ 0 ≤ n ∧ n ≤ 10000 then cntE s fin next n.toNat else 0) := by
  have J : ∀ b : Bool, b = true → Ev (fun k => dfa_Count.j0 k n b L s fin next) 0 := fun b e => Ev.step (fun _ => rfl) (ev_pos e (ev_some 0))
  refine ev_bind (dval_ev _ _ _ _) ?_
  by_cases hv : valE L s fin next = 0
  · refine ev_pos hv ?_
    by_cases h1 : n < 0
    · rw [if_neg (by omega)]
      exact ev_pos h1 (J true rfl)
    · refine ev_neg h1 ?_
      by_cases h2 : n > 10000
      · rw [if_neg (by omega)]
        exact J _ (decide_eq_true h2)
      · rw [if_pos ⟨hv, by omega, by omega⟩]
        obtain ⟨v1, v2, v3, v4, v5, v6, v7, v8⟩ := valE_zero hv
        obtain ⟨m, rfl⟩ : ∃ m : Nat, n = (m : Int) := ⟨n.toNat, by omega⟩
        have K : ∀ b : Bool, b = false → Ev (fun k => dfa_Count.j0 k (m : Int) b L s fin next) (cntE s fin next m) := by
          intro b e
          refine Ev.step (fun _ => rfl) (ev_neg (by simp [e]) (ev_pos (by omega) (ev_pos (by omega) (ev_bind0 rfl (ev_pos v6 (ev_pos (by simp; omega) ?_))))))
          exact dcount_l0 L s fin next (by omega) v5 (fun row hr => ⟨by have := (v8 row hr).1; omega, by rw [v5]; exact (v8 row hr).2⟩) m _ (by simp) (by omega)
        exact K _ (decide_eq_false h2)
  · rw [if_neg (fun h => hv h.1)]
    exact ev_neg hv (J true rfl)

theorem tm0 : (wrap64 (0 + 0)).tmod 2305843009213693951 = 0 := by kernel_rfl
section
variable {L s : Int} {fin : List Bool} {next : List (List Int)}
/-- A path of a length. -/
def PathTo (next : List (List Int)) (s : Int) (k : Nat) (q : Int) : Prop := ∃ p : Nat → Int, p 0 = s ∧ p k = q ∧ ∀ i, i < k → p (i + 1) ∈ rd_L1 next (p i)
theorem PathTo.snoc {k : Nat} {q t : Int} (h : PathTo next s k q) (ht : t ∈ rd_L1 next q) : PathTo next s (k + 1) t := by
  obtain ⟨p, h0, h1, h2⟩ := h
  refine ⟨fun i => if i ≤ k then p i else t, (if_pos (Nat.zero_le k)).trans h0, if_neg (by omega), fun i hi => ?_⟩
  show (if i + 1 ≤ k then p (i + 1) else t) ∈ rd_L1 next (if i ≤ k then p i else t)
  rw [if_pos (show i ≤ k by omega)]
  by_cases h3 : i + 1 ≤ k
  · rw [if_pos h3]; exact h2 i (by omega)
  · rw [if_neg h3, show i = k by omega, h1]; exact ht
theorem cset_nz (k : Int) (nx : List Int) (t q : Int) (ht : 0 ≤ t ∧ t < (nx.length : Int)) (hq : 0 ≤ q) (h : rd (cset k nx t) q ≠ 0) : rd nx q ≠ 0 ∨ k ≠ 0 ∧ q = t := by
  obtain ⟨a, rfl⟩ := Int.eq_ofNat_of_zero_le ht.1
  obtain ⟨b, rfl⟩ := Int.eq_ofNat_of_zero_le hq
  by_cases e : a = b
  · subst e
    by_cases h2 : rd nx (a : Int) = 0
    · refine .inr ⟨?_, rfl⟩
      rintro rfl
      refine h ?_
      unfold cset
      rw [h2]
      simp only [Int.toNat_natCast, rd, List.getD_eq_getElem?_getD, List.getElem?_set, if_pos]
      rw [if_pos (by omega), tm0]
      rfl
    · exact .inl h2
  · left
    intro h2
    refine h ?_
    unfold cset
    simp only [Int.toNat_natCast, rd, List.getD_eq_getElem?_getD, List.getElem?_set] at h2 ⊢
    rw [if_neg e]
    exact h2
theorem crow_nz (k : Int) (q : Int) (hq : 0 ≤ q) : ∀ (row nx : List Int), (∀ t ∈ row, 0 ≤ t ∧ t < (nx.length : Int)) → rd (crow k nx row) q ≠ 0 → rd nx q ≠ 0 ∨ k ≠ 0 ∧ q ∈ row
  | [], nx, _, h => .inl h
  | t :: row, nx, hb, h => by
    have hl : (cset k nx t).length = nx.length := by simp [cset]
    rcases crow_nz k q hq row (cset k nx t) (fun u hu => by rw [hl]; exact hb u (by simp [hu])) h with h | ⟨h1, h2⟩
    · rcases cset_nz k nx t q (hb t (by simp)) hq h with h | ⟨h1, h2⟩
      · exact .inl h
      · exact .inr ⟨h1, by simp [h2]⟩
    · exact .inr ⟨h1, by simp [h2]⟩
theorem cstep_nz (q : Int) (hq : 0 ≤ q) : ∀ (rows : List (List Int)) (ws nx : List Int), (∀ row ∈ rows, ∀ t ∈ row, 0 ≤ t ∧ t < (nx.length : Int)) → rd (cstep rows ws nx) q ≠ 0 → rd nx q ≠ 0 ∨ ∃ i : Nat, ∃ h : i < rows.length, rd ws (i : Int) ≠ 0 ∧ q ∈ rows[i]
  | [], ws, nx, _, h => .inl h
  | row :: rows, [], nx, _, h => .inl h
  | row :: rows, w :: ws, nx, hb, h => by
    have h : rd (cstep rows ws (crow w nx row)) q ≠ 0 := h
    rcases cstep_nz q hq rows ws (crow w nx row) (fun r hr t ht => by rw [crow_length]; exact hb r (by simp [hr]) t ht) h with h | ⟨i, hi, h1, h2⟩
    · rcases crow_nz w q hq row nx (hb row (by simp)) h with h | ⟨h1, h2⟩
      · exact .inl h
      · exact .inr ⟨0, by simp, by simpa [rd] using h1, by simpa using h2⟩
    · refine .inr ⟨i + 1, by simp; omega, ?_, by simpa using h2⟩
      simp only [rd, Int.toNat_natCast, List.getD_eq_getElem?_getD] at h1 ⊢
      rw [List.getElem?_cons_succ]
      exact h1
theorem cwalk_path (V : VA L s fin next) : ∀ (m : Nat) (k : Nat) (ws : List Int), ws.length = fin.length → (∀ q : Int, 0 ≤ q → q < (fin.length : Int) → rd ws q ≠ 0 → PathTo next s k q) → ∀ q : Int, 0 ≤ q → q < (fin.length : Int) → rd (cwalk next m ws) q ≠ 0 → PathTo next s (k + m) q
  | 0, k, ws, _, h, q, h0, h1, hh => h q h0 h1 hh
  | m + 1, k, ws, hl, h, q, h0, h1, hh => by
    have hnl := V.nl
    have := cwalk_path V m (k + 1) (cstep next ws (List.replicate ws.length 0)) (by rw [cstep_length, List.length_replicate, hl]) (fun t ht0 ht1 ht => ?_) q h0 h1 hh
    · rwa [show k + 1 + m = k + (m + 1) by omega] at this
    · rcases cstep_nz t ht0 next ws _ (fun row hr u hu => by rw [List.length_replicate, hl]; exact (V.rw row hr).2 u hu) ht with hz | ⟨i, hi, h2, h3⟩
      · exfalso
        obtain ⟨b, rfl⟩ := Int.eq_ofNat_of_zero_le ht0
        rw [rd_at _ b (by simp; omega), List.getElem_replicate] at hz
        exact hz rfl
      · exact (h (i : Int) (by omega) (by omega) h2).snoc (by rw [rdL_at next i hi]; exact h3)
theorem csum_nz : ∀ (fs : List Bool) (ws : List Int) (acc : Int), csum fs ws acc ≠ 0 → acc ≠ 0 ∨ ∃ i : Nat, ∃ h : i < fs.length, fs[i] = true ∧ rd ws (i : Int) ≠ 0
  | [], _, acc, h => .inl h
  | _ :: _, [], acc, h => .inl h
  | b :: fs, w :: ws, acc, h => by
    have h : csum fs ws (if b = true then Int.tmod (wrap64 (acc + w)) 2305843009213693951 else acc) ≠ 0 := h
    rcases csum_nz fs ws _ h with h | ⟨i, hi, h1, h2⟩
    · by_cases hb : b = true
      · rw [if_pos hb] at h
        by_cases ha : acc = 0
        · refine .inr ⟨0, by simp, hb, ?_⟩
          intro hw
          have hw : w = 0 := by simpa [rd] using hw
          rw [ha, hw, tm0] at h
          exact h rfl
        · exact .inl ha
      · rw [if_neg hb] at h
        exact .inl h
    · refine .inr ⟨i + 1, by simp; omega, by simpa using h1, ?_⟩
      simp only [rd, Int.toNat_natCast, List.getD_eq_getElem?_getD] at h2 ⊢
      rw [List.getElem?_cons_succ]
      exact h2
theorem cnt_path (V : VA L s fin next) (m : Nat) (h : cntE s fin next m ≠ 0) : ∃ q, 0 ≤ q ∧ q < (fin.length : Int) ∧ rdOf false fin q = true ∧ PathTo next s m q := by
  unfold cntE at h
  rcases csum_nz _ _ _ h with h | ⟨i, hi, h1, h2⟩
  · exact absurd rfl h
  · refine ⟨(i : Int), by omega, by omega, by rw [rdOf_get _ _ i hi]; exact h1, ?_⟩
    have := cwalk_path V m 0 ((List.replicate fin.length 0).set s.toNat 1) (by simp) (fun q h0 hq1 hq => ?_) (i : Int) (by omega) (by omega) h2
    · rwa [Nat.zero_add] at this
    · obtain ⟨b, rfl⟩ := Int.eq_ofNat_of_zero_le h0
      obtain ⟨a, ha⟩ := Int.eq_ofNat_of_zero_le V.s0
      rw [rd_at _ b (by simp; omega), List.getElem_set] at hq
      by_cases e : s.toNat = b
      · exact ⟨fun _ => (b : Int), by show (b : Int) = s; omega, rfl, fun i hi => by omega⟩
      · rw [if_neg e, List.getElem_replicate] at hq
        exact absurd rfl hq
end

theorem cnt_inf {L s : Int} {fin : List Bool} {next : List (List Int)} (V : VA L s fin next) (m : Nat) (hm : fin.length ≤ m) (h : cntE s fin next m ≠ 0) : Inf s fin next := by
  obtain ⟨q, h0, h1, hf, p, p0, pm, hp⟩ := cnt_path V m h
  obtain ⟨i, hi, h2, h3, h4⟩ := long_cyc V hm p0 hp
  rw [pm] at h3
  exact ⟨p i, h2, ⟨q, h3, hf⟩, h4⟩
theorem DfaInfinite : semigrouplaw07_DfaInfinite.Pure := by
  intro x hx
  have A : Ev (fun k => (semigrouplaw07_awake.f k).bind fun t => some t) true := ev_bind awake_ev (ev_some true)
  refine Ev.rounds (ev_bind (dinf_ev _ _ _ _) (ev_bind (valid_ev _ _ _ _) ?_))
  by_cases hv : valE x.f0 x.f1 x.f2 x.f3 = 0
  · rw [if_pos hv]
    have V := VA.of hv
    refine ev_pos (by simp [hv]) ?_
    by_cases h40 : (x.f2.length : Int) > 40
    · exact ev_pos h40 A
    refine ev_neg h40 ?_
    have hnf : nf x.f2 ≤ x.f2.length := List.countP_le_length
    have I1 := infB_iff hv (lfix_ok V (x.f2.length + 1) x.f2 (LI.start x.f2 x.f3) (by omega))
    have I2 := rinfB_iff hv (liter_ok V x.f2.length x.f2 (LI.start x.f2 x.f3) hnf)
    have hR := rinf_ev hv
    generalize infB x.f1 x.f2 x.f3 (lfix x.f3 (x.f2.length + 1) x.f2) = b at I1
    generalize rinfB x.f2 x.f3 (liter x.f3 x.f2.length x.f2) (srch x.f1 x.f2 x.f3).o = c at I2 hR
    have e : b = c := by rw [Bool.eq_iff_iff, I1, I2]
    subst e
    have key : ∀ (d j : Nat) (lg : Bool), 2 * x.f2.length - j = d → j ≤ 2 * x.f2.length → x.f2.length ≤ j → (lg = true → Inf x.f1 x.f2 x.f3) → Ev (fun k => semigrouplaw07_DfaInfinite.l0 k b lg (j : Int) x.f0 x.f1 x.f2 x.f3) true := by
      have e2 : wrap64 (2 * (x.f2.length : Int)) = ((2 * x.f2.length : Nat) : Int) := by rw [wrap_in (by omega) (by omega)]; omega
      intro d
      induction d with
      | zero =>
        intro j lg hd hj hn hlg
        refine Ev.step (fun _ => by rw [semigrouplaw07_DfaInfinite.l0]) ?_
        rw [e2]
        refine ev_neg (by omega) (ev_bind hR (ev_pos (by simp) ?_))
        by_cases hb : b = true
        · exact ev_pos hb A
        · exact ev_neg hb (ev_neg (fun h => hb (I1.2 (hlg h))) A)
      | succ d ih =>
        intro j lg hd hj hn hlg
        refine Ev.step (fun _ => by rw [semigrouplaw07_DfaInfinite.l0]) ?_
        rw [e2, wrap_succ (show j < 2 * x.f2.length by omega) (by omega)]
        refine ev_pos (by omega) ?_
        by_cases hb : lg = true
        · exact ev_pos hb (ih (j + 1) true (by omega) (by omega) (by omega) (fun _ => hlg hb))
        · refine ev_neg hb (ev_bind (dcount_ev _ _ _ _ _) ?_)
          rw [if_pos ⟨hv, by omega, by omega⟩, Int.toNat_natCast]
          refine ih (j + 1) _ (by omega) (by omega) (by omega) (fun h => cnt_inf V j hn ?_)
          simpa using h
    exact key _ x.f2.length false rfl (by omega) (by omega) (fun h => by cases h)
  · rw [if_neg hv]
    exact ev_neg (by simp [hv]) (ev_neg (by simp) A)

end Go.Proofs.Ytpjbmgoagehjkaa.Pure
