/- Two ways to find the reachable part of an automaton, in its canonical order, and the new numbers of its states agree. -/
import Derived.Test.YtpjbmgoagehjkaaZDfaTrimsQ
namespace Go.Proofs.Ytpjbmgoagehjkaa.Pure
open Go.RowKit Go.Proofs.Ytpjbmgoagehjkaa.PDfaTrims Go.Proofs.YtpjbmgoagehjkaaW.PrintWords Go.Proofs.YtpjbmgoagehjkaaW.PrintLast Go.Proofs.YtpjbmgoagehjkaaH
set_option linter.unusedVariables false
set_option linter.unusedSimpArgs false

theorem ev_mono {α : Type} {f : Nat → Option α} {r : α} (K : Nat) (hm : ∀ k, LeO (f k) (f (k + 1))) (h : f K = some r) : Ev f r := by
  refine ⟨K, fun n hn => ?_⟩
  induction n with
  | zero => rw [show K = 0 from by omega] at h; exact h
  | succ n ih =>
    by_cases e : K = n + 1
    · rw [← e]; exact h
    · exact hm n _ (ih (by omega))

theorem words_odd : Ev (fun k => dfa_Words.f k 2 0 [false, true] [[1, 0], [0, 1]] 3) [⟨#[97]⟩, ⟨#[97, 98]⟩, ⟨#[98, 97]⟩] := by
  refine ev_mono 40 (fun k => dfa_Words.mono _ _ _ _ _ k) ?_
  kernel_rfl
theorem awake_ev : Ev (fun k => semigrouplaw07_awake.f k) true := by
  refine ev_bind0 rfl (ev_bind words_odd (ev_bind ?_ (ev_some true)))
  refine ev_mono 10 (fun k => semigroupref01_Same.mono _ _ k) ?_
  kernel_rfl

/-- A row of a valid automaton with n states and L letters. -/
def okRow (n L : Int) (row : List Int) : Bool := decide ((row.length : Int) = L) && row.all (fun q => decide (0 ≤ q ∧ q < n))
/-- What is wrong with an automaton. -/
def valE (L s : Int) (fin : List Bool) (next : List (List Int)) : Int :=
  if L < 1 ∨ L > 6 then 1 else if fin.length > 512 then 3 else if fin.length = 0 ∨ next.length ≠ fin.length ∨ s < 0 ∨ s ≥ (fin.length : Int) then 4
  else if next.all (okRow fin.length L) then 0 else 4
theorem rdL_at (l : List (List Int)) (i : Nat) (h : i < l.length) : rd_L1 l (i : Int) = l[i] := by simp [rd_L1, List.getD, h]
theorem dval_l1 (n L s : Int) (fin : List Bool) (next rows : List (List Int)) (len i : Int) (row : List Int) (hn : row.length ≤ 1000) (r : Int) : ∀ (d j : Nat), row.length - j = d → j ≤ row.length →
    ((row.drop j).all (fun q => decide (0 ≤ q ∧ q < n)) = true → Ev (fun k => dfa_Validate.l0 k n rows len (wrap64 (i + 1)) L s fin next) r) →
    (¬ (row.drop j).all (fun q => decide (0 ≤ q ∧ q < n)) = true → r = 4) →
    Ev (fun k => dfa_Validate.l1 k n rows len i row (row.length : Int) (j : Int) L s fin next) r := by
  intro d
  induction d with
  | zero =>
    intro j hd hj h h'
    exact Ev.step (fun _ => rfl) (ev_neg (by omega) (h (by rw [List.drop_eq_nil_of_le (by omega)]; rfl)))
  | succ d ih =>
    intro j hd hj h h'
    have hlt : j < row.length := by omega
    rw [List.drop_eq_getElem_cons hlt, List.all_cons] at h h'
    refine Ev.step (fun _ => rfl) (ev_pos (by omega) (ev_pos (by omega) (ev_pos (by omega) ?_)))
    rw [rd_at row j hlt]
    by_cases h1 : row[j] < 0
    · exact ev_pos h1 (ev_eq (ev_some 4) (h' (by rw [decide_eq_false (by omega)]; simp)).symm)
    · refine ev_neg h1 ?_
      by_cases h2 : row[j] ≥ n
      · exact ev_pos h2 (ev_eq (ev_some 4) (h' (by rw [decide_eq_false (by omega)]; simp)).symm)
      · refine ev_neg h2 ?_
        rw [wrap_succ hlt (by omega)]
        rw [decide_eq_true (show 0 ≤ row[j] ∧ row[j] < n by omega), Bool.true_and] at h h'
        exact ih (j + 1) (by omega) (by omega) h h'
theorem dval_l0 (n L s : Int) (hL : 0 ≤ L ∧ L ≤ 6) (fin : List Bool) (next rows : List (List Int)) (hr : rows.length ≤ 1000) : ∀ (d i : Nat), rows.length - i = d → i ≤ rows.length →
    Ev (fun k => dfa_Validate.l0 k n rows (rows.length : Int) (i : Int) L s fin next) (if (rows.drop i).all (okRow n L) then 0 else 4) := by
  intro d
  induction d with
  | zero =>
    intro i hd hi
    exact Ev.step (fun _ => rfl) (ev_neg (by omega) (ev_eq (ev_some 0) (by rw [List.drop_eq_nil_of_le (by omega)]; rfl)))
  | succ d ih =>
    intro i hd hi
    have hlt : i < rows.length := by omega
    rw [List.drop_eq_getElem_cons hlt, List.all_cons]
    refine Ev.step (fun _ => rfl) (ev_pos (by omega) (ev_pos (by omega) (ev_pos (by omega) ?_)))
    rw [rdL_at rows i hlt]
    by_cases h1 : (rows[i].length : Int) = L
    · refine ev_pos h1 (dval_l1 n L s fin next rows _ i rows[i] (by omega) _ _ 0 rfl (by omega) (fun h => ?_) (fun h => ?_))
      · rw [List.drop_zero] at h
        rw [wrap_succ hlt (by omega), show okRow n L rows[i] = true from by unfold okRow; rw [h, decide_eq_true h1]; rfl, Bool.true_and]
        exact ih (i + 1) (by omega) (by omega)
      · rw [List.drop_zero] at h
        rw [show okRow n L rows[i] = false from by unfold okRow; rw [Bool.not_eq_true] at h; rw [h, Bool.and_false], Bool.false_and]
        rfl
    · refine ev_neg h1 (ev_eq (ev_some 4) ?_)
      rw [show okRow n L rows[i] = false from by unfold okRow; rw [decide_eq_false h1, Bool.false_and], Bool.false_and]
      rfl
theorem dval_ev (L s : Int) (fin : List Bool) (next : List (List Int)) : Ev (fun k => dfa_Validate.f k L s fin next) (valE L s fin next) := by
  have J : ∀ b : Bool, b = decide (L < 1 ∨ L > 6) → Ev (fun k => dfa_Validate.j0 k (fin.length : Int) b L s fin next) (valE L s fin next) := by
    intro b e
    unfold valE
    by_cases h1 : L < 1 ∨ L > 6
    · rw [decide_eq_true h1] at e
      rw [if_pos h1]
      exact Ev.step (fun _ => rfl) (ev_pos e (ev_some 1))
    · rw [decide_eq_false h1] at e
      rw [if_neg h1]
      refine Ev.step (fun _ => rfl) (ev_neg (by simp [e]) ?_)
      by_cases h2 : fin.length > 512
      · rw [if_pos h2]
        exact ev_pos (by omega) (ev_some 3)
      · rw [if_neg h2]
        refine ev_neg (by omega) ?_
        by_cases h3 : fin.length = 0
        · rw [if_pos (.inl h3)]
          exact ev_pos (by omega) (ev_some 4)
        · refine ev_neg (by omega) ?_
          by_cases h4 : next.length = fin.length
          · refine ev_pos (by omega) ?_
            by_cases h5 : s < 0
            · rw [if_pos (.inr (.inr (.inl h5)))]
              exact ev_pos h5 (ev_some 4)
            · refine ev_neg h5 ?_
              by_cases h6 : s ≥ (fin.length : Int)
              · rw [if_pos (.inr (.inr (.inr h6)))]
                exact ev_pos h6 (ev_some 4)
              · rw [if_neg (by omega)]
                refine ev_neg h6 ?_
                have := dval_l0 (fin.length : Int) L s (by omega) fin next next (by omega) _ 0 rfl (by omega)
                rwa [List.drop_zero] at this
          · rw [if_pos (.inr (.inl h4))]
            exact ev_neg (by omega) (ev_some 4)
  by_cases h : L < 1
  · exact ev_pos h (J true (by rw [decide_eq_true (.inl h)]))
  · exact ev_neg h (J _ (by simp only [h, false_or]))

theorem rval_l1 (n L s : Int) (fin : List Bool) (next rows : List (List Int)) (len i : Int) (row : List Int) (hn : row.length ≤ 1000) (r : Int) : ∀ (d j : Nat), row.length - j = d → j ≤ row.length →
    ((row.drop j).all (fun q => decide (0 ≤ q ∧ q < n)) = true → Ev (fun k => semigroupref07_Validate.l0 k n rows len (wrap64 (i + 1)) L s fin next) r) →
    (¬ (row.drop j).all (fun q => decide (0 ≤ q ∧ q < n)) = true → r = 4) →
    Ev (fun k => semigroupref07_Validate.l1 k n rows len i row (row.length : Int) (j : Int) L s fin next) r := by
  intro d
  induction d with
  | zero =>
    intro j hd hj h h'
    exact Ev.step (fun _ => rfl) (ev_neg (by omega) (h (by rw [List.drop_eq_nil_of_le (by omega)]; rfl)))
  | succ d ih =>
    intro j hd hj h h'
    have hlt : j < row.length := by omega
    rw [List.drop_eq_getElem_cons hlt, List.all_cons] at h h'
    refine Ev.step (fun _ => rfl) (ev_pos (by omega) (ev_pos (by omega) (ev_pos (by omega) ?_)))
    rw [rd_at row j hlt]
    by_cases h1 : row[j] < 0
    · exact ev_pos h1 (ev_eq (ev_some 4) (h' (by rw [decide_eq_false (by omega)]; simp)).symm)
    · refine ev_neg h1 ?_
      by_cases h2 : row[j] ≥ n
      · exact ev_pos h2 (ev_eq (ev_some 4) (h' (by rw [decide_eq_false (by omega)]; simp)).symm)
      · refine ev_neg h2 ?_
        rw [wrap_succ hlt (by omega)]
        rw [decide_eq_true (show 0 ≤ row[j] ∧ row[j] < n by omega), Bool.true_and] at h h'
        exact ih (j + 1) (by omega) (by omega) h h'
theorem rval_l0 (n L s : Int) (hL : 0 ≤ L ∧ L ≤ 6) (fin : List Bool) (next rows : List (List Int)) (hr : rows.length ≤ 1000) : ∀ (d i : Nat), rows.length - i = d → i ≤ rows.length →
    Ev (fun k => semigroupref07_Validate.l0 k n rows (rows.length : Int) (i : Int) L s fin next) (if (rows.drop i).all (okRow n L) then 0 else 4) := by
  intro d
  induction d with
  | zero =>
    intro i hd hi
    exact Ev.step (fun _ => rfl) (ev_neg (by omega) (ev_eq (ev_some 0) (by rw [List.drop_eq_nil_of_le (by omega)]; rfl)))
  | succ d ih =>
    intro i hd hi
    have hlt : i < rows.length := by omega
    rw [List.drop_eq_getElem_cons hlt, List.all_cons]
    refine Ev.step (fun _ => rfl) (ev_pos (by omega) (ev_pos (by omega) (ev_pos (by omega) ?_)))
    rw [rdL_at rows i hlt]
    by_cases h1 : (rows[i].length : Int) = L
    · refine ev_pos h1 (rval_l1 n L s fin next rows _ i rows[i] (by omega) _ _ 0 rfl (by omega) (fun h => ?_) (fun h => ?_))
      · rw [List.drop_zero] at h
        rw [wrap_succ hlt (by omega), show okRow n L rows[i] = true from by unfold okRow; rw [h, decide_eq_true h1]; rfl, Bool.true_and]
        exact ih (i + 1) (by omega) (by omega)
      · rw [List.drop_zero] at h
        rw [show okRow n L rows[i] = false from by unfold okRow; rw [Bool.not_eq_true] at h; rw [h, Bool.and_false], Bool.false_and]
        rfl
    · refine ev_neg h1 (ev_eq (ev_some 4) ?_)
      rw [show okRow n L rows[i] = false from by unfold okRow; rw [decide_eq_false h1, Bool.false_and], Bool.false_and]
      rfl
theorem rval_ev (L s : Int) (fin : List Bool) (next : List (List Int)) : Ev (fun k => semigroupref07_Validate.f k L s fin next) (valE L s fin next) := by
  by_cases h1 : L < 1 ∨ L > 6
  · have hm : semigroupref01_MayLetters.f L = some false := by
      unfold semigroupref01_MayLetters.f
      by_cases h : L ≥ 1
      · rw [if_pos h, decide_eq_false (by omega)]
      · rw [if_neg h]
    refine ev_bind0 hm (ev_neg (by simp) (ev_eq (ev_some 1) ?_))
    unfold valE
    rw [if_pos h1]
  · have hm : semigroupref01_MayLetters.f L = some true := by
      unfold semigroupref01_MayLetters.f
      rw [if_pos (by omega), decide_eq_true (by omega)]
    refine ev_bind0 hm (ev_pos rfl ?_)
    unfold valE
    rw [if_neg h1]
    by_cases h2 : fin.length > 512
    · rw [if_pos h2]
      exact ev_pos (by omega) (ev_some 3)
    · rw [if_neg h2]
      refine ev_neg (by omega) ?_
      have J : ∀ b : Bool, b = decide (fin.length = 0 ∨ next.length ≠ fin.length ∨ s < 0 ∨ s ≥ (fin.length : Int)) → Ev (fun k => semigroupref07_Validate.j0 k (fin.length : Int) b L s fin next) (if fin.length = 0 ∨ next.length ≠ fin.length ∨ s < 0 ∨ s ≥ (fin.length : Int) then 4 else if next.all (okRow fin.length L) then 0 else 4) := by
        intro b e
        by_cases h3 : fin.length = 0 ∨ next.length ≠ fin.length ∨ s < 0 ∨ s ≥ (fin.length : Int)
        · rw [decide_eq_true h3] at e
          rw [if_pos h3]
          exact Ev.step (fun _ => rfl) (ev_pos e (ev_some 4))
        · rw [decide_eq_false h3] at e
          rw [if_neg h3]
          refine Ev.step (fun _ => rfl) (ev_neg (by simp [e]) ?_)
          have := rval_l0 (fin.length : Int) L s (by omega) fin next next (by omega) _ 0 rfl (by omega)
          rwa [List.drop_zero] at this
      by_cases h3 : fin.length = 0
      · exact ev_pos (by omega) (J true (decide_eq_true (.inl h3)).symm)
      · refine ev_neg (by omega) ?_
        by_cases h4 : next.length = fin.length
        · refine ev_pos (by omega) ?_
          by_cases h5 : s < 0
          · exact ev_pos h5 (J true (decide_eq_true (.inr (.inr (.inl h5)))).symm)
          · refine ev_neg h5 (J _ ?_)
            by_cases h6 : s ≥ (fin.length : Int)
            · rw [decide_eq_true h6, decide_eq_true (.inr (.inr (.inr h6)))]
            · rw [decide_eq_false h6, decide_eq_false (by omega)]
        · exact ev_neg (by omega) (J true (decide_eq_true (.inr (.inl h4))).symm)

theorem valid_ev (L s : Int) (fin : List Bool) (next : List (List Int)) : Ev (fun k => semigrouplaw07_valid.f k L s fin next) (valE L s fin next == 0) :=
  ev_bind (rval_ev _ _ _ _) (ev_some _)

theorem valE_zero {L s : Int} {fin : List Bool} {next : List (List Int)} (h : valE L s fin next = 0) :
    1 ≤ L ∧ L ≤ 6 ∧ 0 < fin.length ∧ fin.length ≤ 512 ∧ next.length = fin.length ∧ 0 ≤ s ∧ s < (fin.length : Int) ∧ ∀ row ∈ next, (row.length : Int) = L ∧ ∀ q ∈ row, 0 ≤ q ∧ q < (fin.length : Int) := by
  unfold valE at h
  by_cases h1 : L < 1 ∨ L > 6
  · rw [if_pos h1] at h; cases h
  rw [if_neg h1] at h
  by_cases h2 : fin.length > 512
  · rw [if_pos h2] at h; cases h
  rw [if_neg h2] at h
  by_cases h3 : fin.length = 0 ∨ next.length ≠ fin.length ∨ s < 0 ∨ s ≥ (fin.length : Int)
  · rw [if_pos h3] at h; cases h
  rw [if_neg h3] at h
  by_cases h4 : next.all (okRow fin.length L) = true
  · refine ⟨by omega, by omega, by omega, by omega, by omega, by omega, by omega, fun row hr => ?_⟩
    have h5 := List.all_eq_true.1 h4 row hr
    simp only [okRow, Bool.and_eq_true, decide_eq_true_eq, List.all_eq_true] at h5
    exact h5
  · rw [if_neg h4] at h; cases h
theorem valE_no {L s : Int} {fin : List Bool} {next : List (List Int)} : valE L s fin next = 0 ∨ valE L s fin next = 1 ∨ valE L s fin next = 3 ∨ valE L s fin next = 4 := by
  unfold valE
  repeat' split
  all_goals simp

/-- A search: the states in the order in which they are met, from where and by which letter, and their numbers. -/
structure SS where
  o : List Int
  f : List Int
  l : List Int
  m : List Int
def sk (i a : Int) (S : SS) (q : Int) : SS :=
  if rd S.m q < 0 then ⟨S.o ++ [q], S.f ++ [i], S.l ++ [a], S.m.set q.toNat (S.o.length : Int)⟩ else S
def srow (i : Int) : Nat → List Int → SS → SS
  | _, [], S => S
  | a, q :: row, S => srow i (a + 1) row (sk i (a : Int) S q)
def sgo (next : List (List Int)) : Nat → Nat → SS → SS
  | 0, _, S => S
  | d + 1, i, S => if i < S.o.length then sgo next d (i + 1) (srow (i : Int) 0 (rd_L1 next (rd S.o (i : Int))) S) else S
def s0 (n : Nat) (s : Int) : SS := ⟨[s], [-1], [-1], (List.replicate n (-1)).set s.toNat 0⟩
def srch (s : Int) (fin : List Bool) (next : List (List Int)) : SS := sgo next fin.length 0 (s0 fin.length s)
def plc : List Int → Nat → List Int → List Int
  | [], _, m => m
  | q :: o, i, m => plc o (i + 1) (m.set q.toNat (i : Int))
theorem plc_snoc (q : Int) : ∀ (o : List Int) (i : Nat) (m : List Int), plc (o ++ [q]) i m = (plc o i m).set q.toNat ((i + o.length : Nat) : Int)
  | [], i, m => rfl
  | p :: o, i, m => by
    show plc (o ++ [q]) (i + 1) _ = (plc o (i + 1) _).set q.toNat _
    rw [plc_snoc q o, show i + 1 + o.length = i + (p :: o).length from by simp; omega]
def ngc (m : List Int) : Nat := m.countP (fun x => decide (x < 0))
theorem ngc_set (m : List Int) (q v : Int) (h0 : 0 ≤ q) (h1 : q < (m.length : Int)) (hn : rd m q < 0) (hv : 0 ≤ v) : ngc (m.set q.toNat v) + 1 = ngc m := by
  obtain ⟨j, rfl⟩ : ∃ j : Nat, q = (j : Int) := ⟨q.toNat, by omega⟩
  have hj : j < m.length := by omega
  rw [rd_at m j hj] at hn
  unfold ngc
  rw [Int.toNat_natCast, List.countP_set hj]
  have hp : 0 < m.countP (fun x => decide (x < 0)) := List.countP_pos_iff.2 ⟨m[j], List.getElem_mem hj, by simpa using hn⟩
  simp only [hn, decide_true, if_true, show ¬ v < 0 by omega, decide_false]
  simp
  omega
structure SI (n : Nat) (L : Int) (S : SS) : Prop where
  ml : S.m.length = n
  ob : ∀ q ∈ S.o, 0 ≤ q ∧ q < (n : Int)
  cn : S.o.length + ngc S.m = n
  fl : S.f.length = S.o.length
  ll : S.l.length = S.o.length
  mp : S.m = plc S.o 0 (List.replicate n (-1))
  fb : ∀ j (h : j < S.f.length), 0 < j → 0 ≤ S.f[j] ∧ S.f[j] < (j : Int)
  lb : ∀ j (h : j < S.l.length), 0 < j → 0 ≤ S.l[j] ∧ S.l[j] < L
  pos : 0 < S.o.length
theorem SI.lt {n : Nat} {L : Int} {S : SS} (h : SI n L S) : S.o.length ≤ n := by have := h.cn; omega
theorem SI.start {n : Nat} {L s : Int} (h0 : 0 ≤ s) (h1 : s < (n : Int)) : SI n L (s0 n s) := by
  refine ⟨by simp [s0], fun q hq => ?_, ?_, rfl, rfl, rfl, fun j h hj => ?_, fun j h hj => ?_, by simp [s0]⟩
  · simp only [s0, List.mem_singleton] at hq
    omega
  · have := ngc_set (List.replicate n (-1)) s 0 h0 (by simpa using h1) (by
      obtain ⟨j, rfl⟩ : ∃ j : Nat, s = (j : Int) := ⟨s.toNat, by omega⟩
      rw [rd_at _ j (by simp; omega)]
      simp) (by omega)
    have h2 : ngc (List.replicate n (-1)) = n := by simp [ngc, List.countP_replicate]
    show 1 + ngc ((List.replicate n (-1)).set s.toNat 0) = n
    omega
  · simp [s0] at h; omega
  · simp [s0] at h; omega
theorem SI.step {n : Nat} {L : Int} {S : SS} (h : SI n L S) {i a q : Int} (hi : 0 ≤ i) (hi' : i < (S.o.length : Int)) (ha : 0 ≤ a ∧ a < L) (hq : 0 ≤ q ∧ q < (n : Int)) : SI n L (sk i a S q) := by
  unfold sk
  split
  · rename_i hn
    refine ⟨by simp [h.ml], fun p hp => ?_, ?_, ?_, ?_, ?_, ?_, ?_, ?_⟩
    · rcases List.mem_append.1 hp with hp | hp
      · exact h.ob p hp
      · rw [List.mem_singleton] at hp; omega
    · have := ngc_set S.m q (S.o.length : Int) hq.1 (by rw [h.ml]; exact hq.2) hn (by omega)
      have := h.cn
      show (S.o ++ [q]).length + ngc (S.m.set q.toNat _) = n
      rw [List.length_append, List.length_singleton]
      omega
    · show (S.f ++ [i]).length = (S.o ++ [q]).length
      rw [List.length_append, List.length_append, h.fl]; rfl
    · show (S.l ++ [a]).length = (S.o ++ [q]).length
      rw [List.length_append, List.length_append, h.ll]; rfl
    · show S.m.set q.toNat _ = plc (S.o ++ [q]) 0 _
      rw [plc_snoc, ← h.mp, Nat.zero_add]
    · intro j hj hp
      show 0 ≤ (S.f ++ [i])[j] ∧ (S.f ++ [i])[j] < (j : Int)
      by_cases e : j < S.f.length
      · rw [List.getElem_append_left e]; exact h.fb j e hp
      · simp only [List.length_append, List.length_singleton] at hj
        rw [List.getElem_append_right (by omega)]
        have := h.fl
        simp; omega
    · intro j hj hp
      show 0 ≤ (S.l ++ [a])[j] ∧ (S.l ++ [a])[j] < L
      by_cases e : j < S.l.length
      · rw [List.getElem_append_left e]; exact h.lb j e hp
      · simp only [List.length_append, List.length_singleton] at hj
        rw [List.getElem_append_right (by omega)]
        simp; omega
    · show 0 < (S.o ++ [q]).length
      simp
  · exact h
theorem sk_pre (i a : Int) (S : SS) (q : Int) : S.o <+: (sk i a S q).o := by
  unfold sk
  split
  · exact List.prefix_append _ _
  · exact List.prefix_refl _
theorem srow_pre (i : Int) : ∀ (row : List Int) (a : Nat) (S : SS), S.o <+: (srow i a row S).o
  | [], _, S => List.prefix_refl _
  | q :: row, a, S => (sk_pre i a S q).trans (srow_pre i row (a + 1) _)
theorem SI.row {n : Nat} {L : Int} {i : Int} : ∀ (row : List Int) (a : Nat) (S : SS), SI n L S → 0 ≤ i → i < (S.o.length : Int) → ((a + row.length : Nat) : Int) ≤ L → (∀ q ∈ row, 0 ≤ q ∧ q < (n : Int)) → SI n L (srow i a row S)
  | [], _, S, h, _, _, _, _ => h
  | q :: row, a, S, h, hi, hi', ha, hq => by
    have hp := (sk_pre i (a : Int) S q).length_le
    simp only [List.length_cons] at ha
    exact SI.row row (a + 1) _ (h.step hi hi' ⟨by omega, by omega⟩ (hq q (by simp))) hi (by omega) (by omega) (fun p hp => hq p (List.mem_cons_of_mem _ hp))
theorem rd_pre {l l' : List Int} (h : l <+: l') {i : Int} (h0 : 0 ≤ i) (h1 : i < (l.length : Int)) : rd l' i = rd l i := by
  obtain ⟨t, rfl⟩ := h
  obtain ⟨j, rfl⟩ : ∃ j : Nat, i = (j : Int) := ⟨i.toNat, by omega⟩
  have hj : j < l.length := by omega
  rw [rd_at _ j (by simp; omega), rd_at _ j hj, List.getElem_append_left hj]
theorem SI.go {n : Nat} {L : Int} {next : List (List Int)} (hn : next.length = n) (hv : ∀ row ∈ next, (row.length : Int) = L ∧ ∀ q ∈ row, 0 ≤ q ∧ q < (n : Int)) : ∀ (d i : Nat) (S : SS), SI n L S → SI n L (sgo next d i S) := by
  intro d
  induction d with
  | zero => intro i S h; exact h
  | succ d ih =>
    intro i S h
    unfold sgo
    split
    · rename_i hi
      refine ih (i + 1) _ ?_
      have hb := h.ob _ (List.getElem_mem hi)
      obtain ⟨q, hq⟩ : ∃ q : Nat, S.o[i] = (q : Int) := ⟨S.o[i].toNat, by omega⟩
      rw [rd_at S.o i hi, hq, rdL_at next q (by omega)]
      have hr := hv next[q] (List.getElem_mem _)
      exact SI.row _ 0 S h (by omega) (by omega) (by omega) hr.2
    · exact h
theorem SI.srch {L s : Int} {fin : List Bool} {next : List (List Int)} (h : valE L s fin next = 0) : SI fin.length L (srch s fin next) := by
  obtain ⟨v1, v2, v3, v4, v5, v6, v7, v8⟩ := valE_zero h
  exact SI.go v5 v8 _ _ _ (SI.start v6 v7)

theorem tk_set {α : Type} {xs ys : List α} {j : Nat} (h : j < xs.length) (hl : xs.length = ys.length) : (xs.take j ++ ys.drop j).set j xs[j] = xs.take (j + 1) ++ ys.drop (j + 1) := by
  apply List.ext_getElem?
  intro i
  simp only [List.getElem?_set, List.getElem?_append, List.getElem?_take, List.getElem?_drop, List.length_take, List.length_append, List.length_drop]
  by_cases h1 : j = i
  · subst h1
    rw [if_pos rfl, if_pos (by omega), if_pos (by omega), if_pos (by omega), List.getElem?_eq_getElem h]
  · rw [if_neg h1]
    by_cases h2 : i < j
    · rw [if_pos (by omega), if_pos h2, if_pos (by omega), if_pos (by omega)]
    · rw [if_neg (by omega), if_neg (by omega)]
      congr 1
      omega
theorem tk_all {α : Type} {xs ys : List α} {j : Nat} (h : xs.length ≤ j) (hl : xs.length = ys.length) : xs.take j ++ ys.drop j = xs := by
  rw [List.take_of_length_le h, List.drop_eq_nil_of_le (by omega), List.append_nil]
theorem tk_len {α : Type} {xs ys : List α} {j : Nat} (hl : xs.length = ys.length) : (xs.take j ++ ys.drop j).length = xs.length := by
  simp only [List.length_append, List.length_take, List.length_drop]; omega

theorem dsearch_l2 (L s : Int) (fin : List Bool) (next : List (List Int)) (n : Nat) (hn : n ≤ 512) (i : Nat) (row : List Int) (hl : (row.length : Int) = L) (hL : L ≤ 6) (hq : ∀ q ∈ row, 0 ≤ q ∧ q < (n : Int)) (r : List Int × List Int × List Int × List Int) : ∀ (d j : Nat) (S : SS), row.length - j = d → j ≤ row.length → SI n L S → i < S.o.length →
    Ev (fun k => dfa_search.l1 k (srow (i : Int) j (row.drop j) S).o (srow (i : Int) j (row.drop j) S).f (srow (i : Int) j (row.drop j) S).l (srow (i : Int) j (row.drop j) S).m (wrap64 ((i : Int) + 1)) L s fin next) r →
    Ev (fun k => dfa_search.l2 k S.o S.f S.l S.m (i : Int) row (row.length : Int) (j : Int) L s fin next) r := by
  intro d
  induction d with
  | zero =>
    intro j S hd hj hS hi h
    rw [List.drop_eq_nil_of_le (by omega)] at h
    exact Ev.step (fun _ => rfl) (ev_neg (by omega) h)
  | succ d ih =>
    intro j S hd hj hS hi h
    have hlt : j < row.length := by omega
    have hb := hq row[j] (List.getElem_mem hlt)
    rw [List.drop_eq_getElem_cons hlt] at h
    have hlen := hS.lt
    have hfl := hS.fl
    have hll := hS.ll
    have hml := hS.ml
    have hS' := hS.step (i := (i : Int)) (a := (j : Int)) (q := row[j]) (by omega) (by omega) ⟨by omega, by omega⟩ hb
    have hp := (sk_pre (i : Int) (j : Int) S row[j]).length_le
    have IH := ih (j + 1) _ (by omega) (by omega) hS' (by omega) h
    refine Ev.step (fun _ => rfl) (ev_pos (by omega) (ev_pos (by omega) (ev_pos (by omega) ?_)))
    rw [rd_at row j hlt, wrap_succ hlt (by omega)]
    refine ev_pos hb.1 (ev_pos (by omega) ?_)
    unfold sk at IH
    by_cases h1 : rd S.m row[j] < 0
    · rw [if_pos h1] at IH
      exact ev_pos h1 (ev_pos (by omega) (ev_pos (by omega) (ev_pos (by omega) IH)))
    · rw [if_neg h1] at IH
      exact ev_neg h1 IH
theorem dsearch_l1 (L s : Int) (fin : List Bool) (next : List (List Int)) (n : Nat) (hn : n ≤ 512) (hnl : next.length = n) (hL : L ≤ 6) (hv : ∀ row ∈ next, (row.length : Int) = L ∧ ∀ q ∈ row, 0 ≤ q ∧ q < (n : Int)) : ∀ (d i : Nat) (S : SS), n - i = d → SI n L S →
    Ev (fun k => dfa_search.l1 k S.o S.f S.l S.m (i : Int) L s fin next) ((sgo next d i S).o, (sgo next d i S).f, (sgo next d i S).l, (sgo next d i S).m) := by
  intro d
  induction d with
  | zero =>
    intro i S hd hS
    have := hS.lt
    exact Ev.step (fun _ => rfl) (ev_neg (by omega) (ev_some _))
  | succ d ih =>
    intro i S hd hS
    refine Ev.step (fun _ => rfl) ?_
    unfold sgo
    by_cases hi : i < S.o.length
    · rw [if_pos hi]
      have hb := hS.ob _ (List.getElem_mem hi)
      obtain ⟨q, hq⟩ : ∃ q : Nat, S.o[i] = (q : Int) := ⟨S.o[i].toNat, by omega⟩
      have e : rd S.o (i : Int) = (q : Int) := by rw [rd_at S.o i hi, hq]
      rw [hq] at hb
      have hr := hv next[q] (List.getElem_mem (by omega))
      refine ev_pos (by omega) (ev_pos (by omega) (ev_pos (by omega) (ev_pos (by omega) ?_)))
      rw [e, rdL_at next q (by omega)]
      refine dsearch_l2 L s fin next n hn i next[q] hr.1 hL hr.2 _ _ 0 S rfl (by omega) hS hi ?_
      rw [List.drop_zero, wrap_succ hi (by have := hS.lt; omega)]
      exact ih (i + 1) _ (by omega) (SI.row _ 0 S hS (by omega) (by omega) (by omega) hr.2)
    · rw [if_neg hi]
      exact ev_neg (by omega) (ev_some _)
theorem dsearch_l0 (L s : Int) (fin : List Bool) (next : List (List Int)) (n : Nat) (hn : n ≤ 512) (h0 : 0 ≤ s) (h1 : s < (n : Int)) (r : List Int × List Int × List Int × List Int)
    (h : Ev (fun k => dfa_search.l1 k (s0 n s).o (s0 n s).f (s0 n s).l (s0 n s).m 0 L s fin next) r) : ∀ (d i : Nat), n - i = d → i ≤ n →
    Ev (fun k => dfa_search.l0 k ((List.replicate n (-1)).take i ++ (List.replicate n 0).drop i) (n : Int) (i : Int) L s fin next) r := by
  have hlen : ∀ i, ((List.replicate n (-1 : Int)).take i ++ (List.replicate n 0).drop i).length = n := fun i => by rw [tk_len (by simp)]; simp
  intro d
  induction d with
  | zero =>
    intro i hd hi
    have hl := hlen i
    refine Ev.step (fun _ => rfl) (ev_neg (by omega) (ev_pos h0 (ev_pos (by omega) ?_)))
    rw [tk_all (by simp; omega) (by simp)]
    exact h
  | succ d ih =>
    intro i hd hi
    have hl := hlen i
    have hlt : i < n := by omega
    refine Ev.step (fun _ => rfl) (ev_pos (by omega) (ev_pos (by omega) (ev_pos (by omega) ?_)))
    have e := tk_set (xs := List.replicate n (-1 : Int)) (ys := List.replicate n 0) (j := i) (by simpa using hlt) (by simp)
    rw [List.getElem_replicate] at e
    rw [Int.toNat_natCast, e, wrap_succ hlt (by omega)]
    exact ih (i + 1) (by omega) (by omega)
theorem dsearch_ev (L s : Int) (fin : List Bool) (next : List (List Int)) (hv : valE L s fin next = 0) : Ev (fun k => dfa_search.f k L s fin next) ((srch s fin next).o, (srch s fin next).f, (srch s fin next).l, (srch s fin next).m) := by
  obtain ⟨v1, v2, v3, v4, v5, v6, v7, v8⟩ := valE_zero hv
  refine ev_pos (by omega) (ev_pos (by omega) (ev_bind0 rfl ?_))
  have h := dsearch_l0 L s fin next fin.length v4 v6 v7 _ (dsearch_l1 L s fin next fin.length v4 v5 v2 v8 fin.length 0 _ rfl (SI.start v6 v7)) _ 0 rfl (by omega)
  rw [List.take_zero, List.drop_zero, List.nil_append] at h
  rw [List.length_replicate]
  exact h

def trimF (fin : List Bool) (S : SS) : List Bool := S.o.map (rdOf false fin)
def trimN (next : List (List Int)) (S : SS) : List (List Int) := S.o.map (fun q => (rd_L1 next q).map (rd S.m))
theorem rdOf_at' {α : Type} (d : α) (l : List α) (i : Nat) (h : i < l.length) : rdOf d l (i : Int) = l[i] := by simp [rdOf, List.getD, h]
theorem dtrim_l1 (m : List Int) (q : Int) (o : List Int) (xl xi L s : Int) (fin : List Bool) (next : List (List Int)) (t0 t1 : Int) (tf : List Bool) (tn : List (List Int)) (row : List Int) (hrow : rd_L1 next q = row) (hq : 0 ≤ q ∧ q < (next.length : Int)) (hqf : q < (fin.length : Int)) (hm : ∀ p ∈ row, 0 ≤ p ∧ p < (m.length : Int)) (hl : row.length ≤ 6) (htf : tf.length ≤ 1000) (htn : tn.length ≤ 1000) (r : Int × Int × List Bool × List (List Int) × List Int)
    (h : Ev (fun k => dfa_Trim.l0 k m o xl (wrap64 (xi + 1)) L s fin next t0 t1 (tf ++ [rdOf false fin q]) (tn ++ [row.map (rd m)])) r) : ∀ (d j : Nat), row.length - j = d → j ≤ row.length →
    Ev (fun k => dfa_Trim.l1 k m q ((row.map (rd m)).take j ++ (List.replicate row.length 0).drop j) o xl xi (row.length : Int) (j : Int) L s fin next t0 t1 tf tn) r := by
  intro d
  induction d with
  | zero =>
    intro j hd hj
    refine Ev.step (fun _ => rfl) (ev_neg (by omega) (ev_pos hq.1 (ev_pos hqf (ev_pos (by omega) (ev_pos (by omega) ?_)))))
    rw [tk_all (by simp; omega) (by simp)]
    exact h
  | succ d ih =>
    intro j hd hj
    have hlt : j < row.length := by omega
    have hb := hm row[j] (List.getElem_mem hlt)
    refine Ev.step (fun _ => rfl) (ev_pos (by omega) (ev_pos hq.1 (ev_pos hq.2 (ev_pos (by omega) ?_))))
    rw [hrow, rd_at row j hlt]
    refine ev_pos (by omega) (ev_pos hb.1 (ev_pos hb.2 (ev_pos (by rw [tk_len (by simp)]; simp; omega) ?_)))
    have e := tk_set (xs := row.map (rd m)) (ys := List.replicate row.length 0) (j := j) (by simpa using hlt) (by simp)
    rw [List.getElem_map] at e
    rw [Int.toNat_natCast, e, wrap_succ hlt (by omega)]
    exact ih (j + 1) (by omega) (by omega)
theorem dtrim_l0 (n : Nat) (hn : n ≤ 512) (L s : Int) (hL : 0 ≤ L ∧ L ≤ 6) (fin : List Bool) (next : List (List Int)) (hf : fin.length = n) (hnl : next.length = n) (m : List Int) (hm : m.length = n) (hv : ∀ row ∈ next, (row.length : Int) = L ∧ ∀ q ∈ row, 0 ≤ q ∧ q < (n : Int)) (o : List Int) (ho : ∀ q ∈ o, 0 ≤ q ∧ q < (n : Int)) (hol : o.length ≤ n) : ∀ (d i : Nat), o.length - i = d → i ≤ o.length →
    Ev (fun k => dfa_Trim.l0 k m o (o.length : Int) (i : Int) L s fin next L 0 ((o.take i).map (rdOf false fin)) ((o.take i).map (fun q => (rd_L1 next q).map (rd m)))) (L, 0, o.map (rdOf false fin), o.map (fun q => (rd_L1 next q).map (rd m)), m) := by
  intro d
  induction d with
  | zero =>
    intro i hd hi
    refine Ev.step (fun _ => rfl) (ev_neg (by omega) ?_)
    rw [List.take_of_length_le (by omega)]
    exact ev_some _
  | succ d ih =>
    intro i hd hi
    have hlt : i < o.length := by omega
    have hb := ho o[i] (List.getElem_mem hlt)
    obtain ⟨q, hq⟩ : ∃ q : Nat, o[i] = (q : Int) := ⟨o[i].toNat, by omega⟩
    rw [hq] at hb
    have hr := hv next[q] (List.getElem_mem (by omega))
    refine Ev.step (fun _ => rfl) (ev_pos (by omega) (ev_pos (by omega) (ev_pos (by omega) (ev_pos hL.1 (ev_pos (by omega) (ev_bind0 rfl ?_))))))
    rw [rd_at o i hlt, hq]
    have hlen : L.toNat = next[q].length := by have := hr.1; omega
    rw [hlen]
    have IH := ih (i + 1) (by omega) (by omega)
    rw [List.take_succ_eq_append_getElem hlt, List.map_append, List.map_append, List.map_singleton, List.map_singleton, hq, rdL_at next q (by omega)] at IH
    have H := dtrim_l1 m (q : Int) o (o.length : Int) (i : Int) L s fin next L 0 ((o.take i).map (rdOf false fin)) ((o.take i).map (fun q => (rd_L1 next q).map (rd m))) next[q] (rdL_at next q (by omega)) (by omega) (by omega) (by rw [hm]; exact hr.2) (by omega) (by simp; omega) (by simp; omega) _ (by rw [wrap_succ hlt (by omega)]; exact IH) _ 0 rfl (by omega)
    rw [List.take_zero, List.drop_zero, List.nil_append] at H
    rw [List.length_replicate]
    exact H
theorem dtrim_ev (L s : Int) (fin : List Bool) (next : List (List Int)) : Ev (fun k => dfa_Trim.f k L s fin next) (if valE L s fin next = 0 then (L, 0, trimF fin (srch s fin next), trimN next (srch s fin next), (srch s fin next).m) else (0, 0, [], [], [])) := by
  refine ev_bind (dval_ev _ _ _ _) ?_
  by_cases hv : valE L s fin next = 0
  · rw [if_pos hv]
    obtain ⟨v1, v2, v3, v4, v5, v6, v7, v8⟩ := valE_zero hv
    have hS := SI.srch hv
    refine ev_pos hv (ev_bind (dsearch_ev L s fin next hv) ?_)
    have := dtrim_l0 fin.length v4 L s (by omega) fin next rfl v5 (srch s fin next).m hS.ml v8 (srch s fin next).o hS.ob hS.lt _ 0 rfl (by omega)
    simpa [trimF, trimN] using this
  · rw [if_neg hv]
    exact ev_neg hv (ev_some _)

def chr (a : Int) : ByteArray := strOfNums [(wrap64 (97 + a)) % 256]
theorem chr_size (a : Int) : (chr a).size = 1 := rfl
def wstep (ws : List ByteArray) (p : Int × Int) : List ByteArray := ws ++ [rdOf ByteArray.empty ws p.1 ++ chr p.2]
def wds (S : SS) : List ByteArray := (S.f.zip S.l).tail.foldl wstep [⟨#[]⟩]
def mt (m : List Int) : List Bool := m.map (fun x => decide (0 ≤ x))
structure WI (S : SS) : Prop where
  wl : (wds S).length = S.o.length
  wz : ∀ w ∈ wds S, w.size < S.o.length
theorem rdOf_at {α : Type} (d : α) (l : List α) (i : Nat) (h : i < l.length) : rdOf d l (i : Int) = l[i] := by simp [rdOf, List.getD, h]
theorem rdOf_pre {α : Type} (d : α) {l l' : List α} (h : l <+: l') {i : Int} (h0 : 0 ≤ i) (h1 : i < (l.length : Int)) : rdOf d l' i = rdOf d l i := by
  obtain ⟨t, rfl⟩ := h
  obtain ⟨j, rfl⟩ : ∃ j : Nat, i = (j : Int) := ⟨i.toNat, by omega⟩
  have hj : j < l.length := by omega
  rw [rdOf_at d _ j (by simp; omega), rdOf_at d _ j hj, List.getElem_append_left hj]
theorem wds_snoc {n : Nat} {L : Int} {S : SS} (h : SI n L S) (i a q : Int) (hn : rd S.m q < 0) : wds (sk i a S q) = wds S ++ [rdOf ByteArray.empty (wds S) i ++ chr a] := by
  unfold sk wds
  rw [if_pos hn]
  show ((S.f ++ [i]).zip (S.l ++ [a])).tail.foldl wstep _ = _
  rw [List.zip_append (by rw [h.fl, h.ll])]
  have hp := h.pos
  rw [List.tail_append_of_ne_nil (by
    intro e
    have := congrArg List.length e
    simp [h.fl, h.ll] at this
    rw [this] at hp
    simp at hp), List.foldl_append]
  rfl
theorem size_append (a b : ByteArray) : (a ++ b).size = a.size + b.size := by simp
theorem WI.step {n : Nat} {L : Int} {S : SS} (h : SI n L S) (w : WI S) (i a q : Int) (hi : 0 ≤ i) (hi' : i < (S.o.length : Int)) : WI (sk i a S q) := by
  by_cases hn : rd S.m q < 0
  · have e := wds_snoc h i a q hn
    have eo : (sk i a S q).o = S.o ++ [q] := by unfold sk; rw [if_pos hn]
    refine ⟨by rw [e, eo]; simp [w.wl], fun x hx => ?_⟩
    rw [e] at hx
    rw [eo, List.length_append, List.length_singleton]
    rcases List.mem_append.1 hx with hx | hx
    · have := w.wz x hx; omega
    · rw [List.mem_singleton] at hx
      obtain ⟨j, rfl⟩ : ∃ j : Nat, i = (j : Int) := ⟨i.toNat, by omega⟩
      have hj : j < (wds S).length := by rw [w.wl]; omega
      have := w.wz _ (List.getElem_mem hj)
      rw [hx, size_append, chr_size, rdOf_at _ _ j hj]
      omega
  · have e : sk i a S q = S := by unfold sk; rw [if_neg hn]
    rw [e]; exact w
theorem WI.row {n : Nat} {L : Int} {i : Int} : ∀ (row : List Int) (a : Nat) (S : SS), SI n L S → WI S → 0 ≤ i → i < (S.o.length : Int) → ((a + row.length : Nat) : Int) ≤ L → (∀ q ∈ row, 0 ≤ q ∧ q < (n : Int)) → WI (srow i a row S)
  | [], _, S, _, w, _, _, _, _ => w
  | q :: row, a, S, h, w, hi, hi', ha, hq => by
    have hp := (sk_pre i (a : Int) S q).length_le
    simp only [List.length_cons] at ha
    exact WI.row row (a + 1) _ (h.step hi hi' ⟨by omega, by omega⟩ (hq q (by simp))) (w.step h i _ q hi hi') hi (by omega) (by omega) (fun p hp => hq p (List.mem_cons_of_mem _ hp))
theorem WI.start (n : Nat) (s : Int) : WI (s0 n s) := ⟨rfl, fun w hw => by
  have : w = ⟨#[]⟩ := by simpa [wds, s0] using hw
  subst this
  show 0 < 1
  omega⟩
theorem mt_set (m : List Int) (q v : Int) (hv : 0 ≤ v) : mt (m.set q.toNat v) = (mt m).set q.toNat true := by
  unfold mt
  rw [List.map_set, decide_eq_true hv]
theorem mt_at {m : List Int} {q : Int} (h0 : 0 ≤ q) (h1 : q < (m.length : Int)) : rdOf false (mt m) q = decide (0 ≤ rd m q) := by
  obtain ⟨j, rfl⟩ : ∃ j : Nat, q = (j : Int) := ⟨q.toNat, by omega⟩
  have hj : j < m.length := by omega
  rw [rdOf_at _ _ j (by simp [mt]; omega), rd_at m j hj]
  simp [mt]
theorem WI.go {n : Nat} {L : Int} {next : List (List Int)} (hn : next.length = n) (hv : ∀ row ∈ next, (row.length : Int) = L ∧ ∀ q ∈ row, 0 ≤ q ∧ q < (n : Int)) : ∀ (d i : Nat) (S : SS), SI n L S → WI S → WI (sgo next d i S) := by
  intro d
  induction d with
  | zero => intro i S h w; exact w
  | succ d ih =>
    intro i S h w
    unfold sgo
    split
    · rename_i hi
      have hb := h.ob _ (List.getElem_mem hi)
      obtain ⟨q, hq⟩ : ∃ q : Nat, S.o[i] = (q : Int) := ⟨S.o[i].toNat, by omega⟩
      rw [rd_at S.o i hi, hq, rdL_at next q (by omega)]
      have hr := hv next[q] (List.getElem_mem _)
      exact ih (i + 1) _ (SI.row (i := (i : Int)) _ 0 S h (by omega) (by omega) (by omega) hr.2) (WI.row (i := (i : Int)) _ 0 S h w (by omega) (by omega) (by omega) hr.2)
    · exact w
theorem srch_WI {L s : Int} {fin : List Bool} {next : List (List Int)} (hv : valE L s fin next = 0) : WI (srch s fin next) := by
  obtain ⟨v1, v2, v3, v4, v5, v6, v7, v8⟩ := valE_zero hv
  exact WI.go v5 v8 _ _ _ (SI.start v6 v7) (WI.start _ _)

theorem raccess_l1 (L s : Int) (fin : List Bool) (next : List (List Int)) (n : Nat) (hn : n ≤ 512) (hnl : next.length = n) (i : Nat) (x : Int) (hx : 0 ≤ x ∧ x < (n : Int)) (row : List Int) (hrow : rd_L1 next x = row) (hl : (row.length : Int) = L) (hL : L ≤ 6) (hq : ∀ q ∈ row, 0 ≤ q ∧ q < (n : Int)) (r : List Int × List ByteArray) : ∀ (d j : Nat) (S : SS), row.length - j = d → j ≤ row.length → SI n L S → WI S → i < S.o.length → rd S.o (i : Int) = x →
    Ev (fun k => semigroupref07_Access.l0 k (srow (i : Int) j (row.drop j) S).o (wds (srow (i : Int) j (row.drop j) S)) (mt (srow (i : Int) j (row.drop j) S).m) (wrap64 ((i : Int) + 1)) L s fin next) r →
    Ev (fun k => semigroupref07_Access.l1 k S.o (wds S) (mt S.m) (i : Int) (j : Int) L s fin next) r := by
  intro d
  induction d with
  | zero =>
    intro j S hd hj hS hw hi hxi h
    rw [List.drop_eq_nil_of_le (by omega)] at h
    exact Ev.step (fun _ => rfl) (ev_neg (by omega) h)
  | succ d ih =>
    intro j S hd hj hS hw hi hxi h
    have hlt : j < row.length := by omega
    have hb := hq row[j] (List.getElem_mem hlt)
    rw [List.drop_eq_getElem_cons hlt] at h
    have hlen := hS.lt
    have hml := hS.ml
    have hwl := hw.wl
    have hS' := hS.step (i := (i : Int)) (a := (j : Int)) (q := row[j]) (by omega) (by omega) ⟨by omega, by omega⟩ hb
    have hw' := hw.step hS (i : Int) (j : Int) row[j] (by omega) (by omega)
    have hp := (sk_pre (i : Int) (j : Int) S row[j]).length_le
    have hx' : rd (sk (i : Int) (j : Int) S row[j]).o (i : Int) = x := by rw [rd_pre (sk_pre _ _ _ _) (by omega) (by omega)]; exact hxi
    have IH := ih (j + 1) _ (by omega) (by omega) hS' hw' (by omega) hx' h
    refine Ev.step (fun _ => rfl) (ev_pos (by omega) (ev_pos (by omega) (ev_pos (by omega) (ev_pos (by omega) (ev_pos (by omega) (ev_pos (by omega) ?_))))))
    rw [hxi, hrow, rd_at row j hlt, wrap_succ hlt (by omega)]
    refine ev_pos (by omega) (ev_pos hb.1 (ev_pos (by simp [mt]; omega) ?_))
    rw [mt_at hb.1 (by omega)]
    by_cases h1 : rd S.m row[j] < 0
    · have e := wds_snoc hS (i : Int) (j : Int) row[j] h1
      rw [e] at IH
      unfold sk at IH
      rw [if_pos h1] at IH
      refine ev_neg (by simpa using h1) (ev_bind0 rfl (ev_pos (by simp; omega) (ev_pos (by omega) (ev_bind0 rfl (ev_pos ?_ (ev_bind0 rfl (ev_pos (by simp; omega) ?_)))))))
      · have hz := hw.wz _ (List.getElem_mem (show i < (wds S).length by omega))
        rw [rdOf_at _ _ i (by omega)]
        show _ + 1 ≤ _
        omega
      · rw [mt_set _ _ _ (by omega)] at IH
        exact IH
    · unfold sk at IH
      rw [if_neg h1] at IH
      exact ev_pos (by simpa using h1) IH
theorem raccess_l0 (L s : Int) (fin : List Bool) (next : List (List Int)) (n : Nat) (hn : n ≤ 512) (hnl : next.length = n) (hL : L ≤ 6) (hv : ∀ row ∈ next, (row.length : Int) = L ∧ ∀ q ∈ row, 0 ≤ q ∧ q < (n : Int)) : ∀ (d i : Nat) (S : SS), n - i = d → SI n L S → WI S →
    WI (sgo next d i S) ∧ Ev (fun k => semigroupref07_Access.l0 k S.o (wds S) (mt S.m) (i : Int) L s fin next) ((sgo next d i S).o, wds (sgo next d i S)) := by
  intro d
  induction d with
  | zero =>
    intro i S hd hS hw
    have := hS.lt
    exact ⟨hw, Ev.step (fun _ => rfl) (ev_neg (by omega) (ev_some _))⟩
  | succ d ih =>
    intro i S hd hS hw
    unfold sgo
    by_cases hi : i < S.o.length
    · rw [if_pos hi]
      have hb := hS.ob _ (List.getElem_mem hi)
      obtain ⟨q, hq⟩ : ∃ q : Nat, S.o[i] = (q : Int) := ⟨S.o[i].toNat, by omega⟩
      have e : rd S.o (i : Int) = (q : Int) := by rw [rd_at S.o i hi, hq]
      rw [hq] at hb
      have hr := hv next[q] (List.getElem_mem (by omega))
      rw [e, rdL_at next q (by omega)]
      have hS' := SI.row (i := (i : Int)) next[q] 0 S hS (by omega) (by omega) (by omega) hr.2
      have IH := ih (i + 1) _ (by omega) hS' (WI.row (i := (i : Int)) next[q] 0 S hS hw (by omega) (by omega) (by omega) hr.2)
      refine ⟨IH.1, Ev.step (fun _ => rfl) (ev_pos (by omega) ?_)⟩
      refine raccess_l1 L s fin next n hn hnl i (q : Int) hb next[q] (rdL_at next q (by omega)) hr.1 hL hr.2 _ _ 0 S rfl (by omega) hS hw hi e ?_
      rw [List.drop_zero, wrap_succ hi (by have := hS.lt; omega)]
      exact IH.2
    · rw [if_neg hi]
      exact ⟨hw, Ev.step (fun _ => rfl) (ev_neg (by omega) (ev_some _))⟩
theorem raccess_ev (L s : Int) (fin : List Bool) (next : List (List Int)) (hv : valE L s fin next = 0) : Ev (fun k => semigroupref07_Access.f k L s fin next) ((srch s fin next).o, wds (srch s fin next)) := by
  obtain ⟨v1, v2, v3, v4, v5, v6, v7, v8⟩ := valE_zero hv
  refine ev_pos (by omega) (ev_pos (by omega) (ev_bind0 rfl (ev_pos v6 (ev_pos (by simp; omega) ?_))))
  have h := (raccess_l0 L s fin next fin.length v4 v5 v2 v8 fin.length 0 _ rfl (SI.start v6 v7) (WI.start _ _)).2
  have e : mt (s0 fin.length s).m = (List.replicate fin.length false).set s.toNat true := by
    show mt ((List.replicate fin.length (-1)).set s.toNat 0) = _
    rw [mt_set _ _ _ (by omega)]
    simp [mt]
  rw [e] at h
  exact h

theorem rtrim_l3 (m : List Int) (q : Int) (o : List Int) (xl xi L s : Int) (fin : List Bool) (next : List (List Int)) (t0 t1 : Int) (tf : List Bool) (tn : List (List Int)) (row : List Int) (hq : 0 ≤ q ∧ q < (fin.length : Int)) (hm : ∀ p ∈ row, 0 ≤ p ∧ p < (m.length : Int)) (hl : row.length ≤ 6) (htf : tf.length ≤ 1000) (htn : tn.length ≤ 1000) (r : Int × Int × List Bool × List (List Int) × List Int)
    (h : Ev (fun k => semigroupref07_Trim.l2 k m o xl (wrap64 (xi + 1)) L s fin next t0 t1 (tf ++ [rdOf false fin q]) (tn ++ [row.map (rd m)])) r) : ∀ (d j : Nat), row.length - j = d → j ≤ row.length →
    Ev (fun k => semigroupref07_Trim.l3 k m q ((row.take j).map (rd m)) o xl xi row (row.length : Int) (j : Int) L s fin next t0 t1 tf tn) r := by
  intro d
  induction d with
  | zero =>
    intro j hd hj
    refine Ev.step (fun _ => rfl) (ev_neg (by omega) (ev_bind0 rfl (ev_pos (by simp; omega) (ev_pos hq.1 (ev_pos hq.2 (ev_bind0 rfl (ev_pos (by simp; omega) ?_)))))))
    rw [List.take_of_length_le (by omega)]
    exact h
  | succ d ih =>
    intro j hd hj
    have hlt : j < row.length := by omega
    have hb := hm row[j] (List.getElem_mem hlt)
    refine Ev.step (fun _ => rfl) (ev_pos (by omega) (ev_pos (by omega) (ev_pos (by omega) ?_)))
    rw [rd_at row j hlt]
    refine ev_pos hb.1 (ev_pos hb.2 (ev_bind0 rfl (ev_pos (by simp; omega) ?_)))
    have IH := ih (j + 1) (by omega) (by omega)
    rw [List.take_succ_eq_append_getElem hlt, List.map_append, List.map_singleton] at IH
    rw [wrap_succ hlt (by omega)]
    exact IH
theorem rtrim_l2 (n : Nat) (hn : n ≤ 512) (L s : Int) (hL : 0 ≤ L ∧ L ≤ 6) (fin : List Bool) (next : List (List Int)) (hf : fin.length = n) (hnl : next.length = n) (m : List Int) (hm : m.length = n) (hv : ∀ row ∈ next, (row.length : Int) = L ∧ ∀ q ∈ row, 0 ≤ q ∧ q < (n : Int)) (o : List Int) (ho : ∀ q ∈ o, 0 ≤ q ∧ q < (n : Int)) (hol : o.length ≤ n) : ∀ (d i : Nat), o.length - i = d → i ≤ o.length →
    Ev (fun k => semigroupref07_Trim.l2 k m o (o.length : Int) (i : Int) L s fin next L 0 ((o.take i).map (rdOf false fin)) ((o.take i).map (fun q => (rd_L1 next q).map (rd m)))) (L, 0, o.map (rdOf false fin), o.map (fun q => (rd_L1 next q).map (rd m)), m) := by
  intro d
  induction d with
  | zero =>
    intro i hd hi
    refine Ev.step (fun _ => rfl) (ev_neg (by omega) ?_)
    rw [List.take_of_length_le (by omega)]
    exact ev_some _
  | succ d ih =>
    intro i hd hi
    have hlt : i < o.length := by omega
    have hb := ho o[i] (List.getElem_mem hlt)
    obtain ⟨q, hq⟩ : ∃ q : Nat, o[i] = (q : Int) := ⟨o[i].toNat, by omega⟩
    rw [hq] at hb
    have hr := hv next[q] (List.getElem_mem (by omega))
    refine Ev.step (fun _ => rfl) (ev_pos (by omega) (ev_pos (by omega) (ev_pos (by omega) ?_)))
    rw [rd_at o i hlt, hq]
    refine ev_pos hb.1 (ev_pos (by omega) ?_)
    rw [rdL_at next q (by omega)]
    have IH := ih (i + 1) (by omega) (by omega)
    rw [List.take_succ_eq_append_getElem hlt, List.map_append, List.map_append, List.map_singleton, List.map_singleton, hq, rdL_at next q (by omega)] at IH
    exact rtrim_l3 m (q : Int) o (o.length : Int) (i : Int) L s fin next L 0 ((o.take i).map (rdOf false fin)) ((o.take i).map (fun q => (rd_L1 next q).map (rd m))) next[q] (by omega) (by rw [hm]; exact hr.2) (by omega) (by simp; omega) (by simp; omega) _ (by rw [wrap_succ hlt (by omega)]; exact IH) _ 0 rfl (by omega)
theorem rtrim_l1 (n : Nat) (hn : n ≤ 512) (L s : Int) (fin : List Bool) (next : List (List Int)) (o : List Int) (ho : ∀ q ∈ o, 0 ≤ q ∧ q < (n : Int)) (hol : o.length ≤ n) (r : Int × Int × List Bool × List (List Int) × List Int) : ∀ (d i : Nat) (m : List Int), o.length - i = d → i ≤ o.length → m.length = n →
    Ev (fun k => semigroupref07_Trim.l2 k (plc (o.drop i) i m) o (o.length : Int) 0 L s fin next L 0 [] []) r →
    Ev (fun k => semigroupref07_Trim.l1 k o m o (o.length : Int) (i : Int) L s fin next) r := by
  intro d
  induction d with
  | zero =>
    intro i m hd hi hm h
    rw [List.drop_eq_nil_of_le (by omega)] at h
    exact Ev.step (fun _ => rfl) (ev_neg (by omega) h)
  | succ d ih =>
    intro i m hd hi hm h
    have hlt : i < o.length := by omega
    have hb := ho o[i] (List.getElem_mem hlt)
    rw [List.drop_eq_getElem_cons hlt] at h
    refine Ev.step (fun _ => rfl) (ev_pos (by omega) (ev_pos (by omega) (ev_pos (by omega) ?_)))
    rw [rd_at o i hlt, wrap_succ hlt (by omega)]
    exact ev_pos hb.1 (ev_pos (by omega) (ih (i + 1) _ (by omega) (by omega) (by simpa using hm) h))
theorem rtrim_l0 (L s : Int) (fin : List Bool) (next : List (List Int)) (n : Nat) (hn : n ≤ 512) (o : List Int) (r : Int × Int × List Bool × List (List Int) × List Int)
    (h : Ev (fun k => semigroupref07_Trim.l1 k o (List.replicate n (-1)) o (o.length : Int) 0 L s fin next) r) : ∀ (d i : Nat), n - i = d → i ≤ n →
    Ev (fun k => semigroupref07_Trim.l0 k o ((List.replicate n (-1)).take i ++ (List.replicate n 0).drop i) (n : Int) (i : Int) L s fin next) r := by
  have hlen : ∀ i, ((List.replicate n (-1 : Int)).take i ++ (List.replicate n 0).drop i).length = n := fun i => by rw [tk_len (by simp)]; simp
  intro d
  induction d with
  | zero =>
    intro i hd hi
    refine Ev.step (fun _ => rfl) (ev_neg (by omega) ?_)
    rw [tk_all (by simp; omega) (by simp)]
    exact h
  | succ d ih =>
    intro i hd hi
    have hl := hlen i
    have hlt : i < n := by omega
    refine Ev.step (fun _ => rfl) (ev_pos (by omega) (ev_pos (by omega) (ev_pos (by omega) ?_)))
    have e := tk_set (xs := List.replicate n (-1 : Int)) (ys := List.replicate n 0) (j := i) (by simpa using hlt) (by simp)
    rw [List.getElem_replicate] at e
    rw [Int.toNat_natCast, e, wrap_succ hlt (by omega)]
    exact ih (i + 1) (by omega) (by omega)
theorem rtrim_ev (L s : Int) (fin : List Bool) (next : List (List Int)) (hv : valE L s fin next = 0) : Ev (fun k => semigroupref07_Trim.f k L s fin next) (L, 0, trimF fin (srch s fin next), trimN next (srch s fin next), (srch s fin next).m) := by
  obtain ⟨v1, v2, v3, v4, v5, v6, v7, v8⟩ := valE_zero hv
  have hS := SI.srch hv
  refine ev_bind (raccess_ev L s fin next hv) (ev_pos (by omega) (ev_pos (by omega) (ev_bind0 rfl ?_)))
  have h2 := rtrim_l2 fin.length v4 L s (by omega) fin next rfl v5 (srch s fin next).m hS.ml v8 (srch s fin next).o hS.ob hS.lt _ 0 rfl (by omega)
  rw [List.take_zero, List.map_nil, List.map_nil] at h2
  have h1 := rtrim_l1 fin.length v4 L s fin next (srch s fin next).o hS.ob hS.lt _ _ 0 (List.replicate fin.length (-1)) rfl (by omega) (by simp) (by rw [List.drop_zero, ← hS.mp]; exact h2)
  have h0 := rtrim_l0 L s fin next fin.length v4 (srch s fin next).o _ h1 _ 0 rfl (by omega)
  rw [List.take_zero, List.drop_zero, List.nil_append] at h0
  rw [List.length_replicate]
  exact h0

theorem rdL7_at (l : List (List Int)) (i : Nat) (h : i < l.length) : rd_L1 l (i : Int) = l[i] := by simp [rd_L1, List.getD, h]

theorem same7_l2 (i : Int) (xl xi : Int) (L s : Int) (fin : List Bool) (next : List (List Int)) (row : List Int) (hrow : rd_L1 next i = row) (h0 : 0 ≤ i) (h1 : i < (next.length : Int)) (hl : row.length ≤ 1000000) (h : Ev (fun k => semigroupref07_Same.l1 k xl (wrap64 (xi + 1)) L s fin next L s fin next) true) : ∀ (d j : Nat), row.length - j = d → j ≤ row.length →
    Ev (fun k => semigroupref07_Same.l2 k i xl xi (row.length : Int) (j : Int) L s fin next L s fin next) true := by
  intro d
  induction d with
  | zero =>
    intro j hd hj
    exact Ev.step (fun _ => rfl) (ev_neg (by omega) h)
  | succ d ih =>
    intro j hd hj
    have hlt : j < row.length := by omega
    refine Ev.step (fun _ => rfl) (ev_pos (by omega) (ev_pos h0 (ev_pos h1 (ev_pos (by omega) ?_))))
    rw [hrow]
    refine ev_pos (by omega) (ev_pos h1 (ev_pos (by omega) (ev_pos rfl ?_)))
    rw [wrap_succ hlt (by omega)]
    exact ih (j + 1) (by omega) (by omega)
theorem same7_l1 (L s : Int) (fin : List Bool) (next : List (List Int)) (hn : next.length ≤ 1000000) (hr : ∀ row ∈ next, row.length ≤ 1000000) : ∀ (d i : Nat), next.length - i = d → i ≤ next.length →
    Ev (fun k => semigroupref07_Same.l1 k (next.length : Int) (i : Int) L s fin next L s fin next) true := by
  intro d
  induction d with
  | zero =>
    intro i hd hi
    exact Ev.step (fun _ => rfl) (ev_neg (by omega) (ev_some _))
  | succ d ih =>
    intro i hd hi
    have hlt : i < next.length := by omega
    refine Ev.step (fun _ => rfl) (ev_pos (by omega) (ev_pos (by omega) (ev_pos (by omega) (ev_pos (by omega) (ev_pos rfl ?_)))))
    rw [rdL7_at next i hlt]
    exact same7_l2 (i : Int) _ _ L s fin next next[i] (rdL7_at next i hlt) (by omega) (by omega) (hr _ (List.getElem_mem hlt)) (by rw [wrap_succ hlt (by omega)]; exact ih (i + 1) (by omega) (by omega)) _ 0 rfl (by omega)
theorem same7_l0 (L s : Int) (fin : List Bool) (next : List (List Int)) (hf : fin.length ≤ 1000000) (hn : next.length ≤ 1000000) (hr : ∀ row ∈ next, row.length ≤ 1000000) : ∀ (d i : Nat), fin.length - i = d → i ≤ fin.length →
    Ev (fun k => semigroupref07_Same.l0 k (fin.length : Int) (i : Int) L s fin next L s fin next) true := by
  intro d
  induction d with
  | zero =>
    intro i hd hi
    exact Ev.step (fun _ => rfl) (ev_neg (by omega) (same7_l1 L s fin next hn hr _ 0 rfl (by omega)))
  | succ d ih =>
    intro i hd hi
    have hlt : i < fin.length := by omega
    refine Ev.step (fun _ => rfl) (ev_pos (by omega) (ev_pos (by omega) (ev_pos (by omega) (ev_pos (by omega) (ev_neg (by simp) ?_)))))
    rw [wrap_succ hlt (by omega)]
    exact ih (i + 1) (by omega) (by omega)
theorem same7_ev (L s : Int) (fin : List Bool) (next : List (List Int)) (hf : fin.length ≤ 1000000) (hn : next.length ≤ 1000000) (hr : ∀ row ∈ next, row.length ≤ 1000000) : Ev (fun k => semigroupref07_Same.f k L s fin next L s fin next) true := by
  have J : ∀ b : Bool, b = false → Ev (fun k => semigroupref07_Same.j0 k b L s fin next L s fin next) true := fun b e => Ev.step (fun _ => rfl) (ev_neg (by simp [e]) (same7_l0 L s fin next hf hn hr _ 0 rfl (by omega)))
  exact ev_pos rfl (ev_pos rfl (ev_pos rfl (J _ (by simp))))

theorem same_l0 (a b : List Int) (hab : a.length = b.length) (hn : a.length ≤ 140737488355328) : ∀ (d i : Nat), a.length - i = d → i ≤ a.length → a.take i = b.take i →
    Ev (fun k => semigroupref03_Same.l0 k a b (a.length : Int) (i : Int)) (decide (a = b)) := by
  intro d
  induction d with
  | zero =>
    intro i hd hi ht
    refine Ev.step (fun _ => rfl) (ev_neg (by omega) (ev_eq (ev_some true) ?_))
    have h1 : a.take i = a := List.take_of_length_le (by omega)
    have h2 : b.take i = b := List.take_of_length_le (by omega)
    rw [h1, h2] at ht
    simp [ht]
  | succ d ih =>
    intro i hd hi ht
    have hlt : i < a.length := by omega
    refine Ev.step (fun _ => rfl) (ev_pos (by omega) (ev_pos (by omega) (ev_pos (by omega) (ev_pos (by omega) ?_))))
    rw [rd_at a i hlt, rd_at b i (by omega)]
    by_cases h : a[i] = b[i]
    · refine ev_pos h ?_
      rw [wrap_succ hlt hn]
      exact ih (i + 1) (by omega) (by omega) (by rw [List.take_succ_eq_append_getElem hlt, List.take_succ_eq_append_getElem (by omega), ht, h])
    · refine ev_neg h (ev_eq (ev_some false) ?_)
      symm
      rw [decide_eq_false_iff_not]
      rintro rfl
      exact h rfl
theorem same_ev (a b : List Int) (hn : a.length ≤ 140737488355328) : Ev (fun k => semigroupref03_Same.f k a b) (decide (a = b)) := by
  by_cases h : a.length = b.length
  · exact ev_pos (by omega) (same_l0 a b h hn _ 0 rfl (by omega) (by simp))
  · refine ev_neg (by omega) (ev_eq (ev_some false) ?_)
    symm
    rw [decide_eq_false_iff_not]
    rintro rfl
    exact h rfl

theorem trim_small {L s : Int} {fin : List Bool} {next : List (List Int)} (hv : valE L s fin next = 0) : (trimF fin (srch s fin next)).length ≤ 512 ∧ (trimN next (srch s fin next)).length ≤ 512 ∧ (∀ row ∈ trimN next (srch s fin next), row.length ≤ 6) ∧ (srch s fin next).m.length ≤ 512 := by
  obtain ⟨v1, v2, v3, v4, v5, v6, v7, v8⟩ := valE_zero hv
  have hS := SI.srch hv
  have := hS.lt
  have := hS.ml
  refine ⟨by simp [trimF]; omega, by simp [trimN]; omega, fun row hr => ?_, by omega⟩
  simp only [trimN, List.mem_map] at hr
  obtain ⟨q, hq, rfl⟩ := hr
  have hb := hS.ob q hq
  obtain ⟨j, rfl⟩ : ∃ j : Nat, q = (j : Int) := ⟨q.toNat, by omega⟩
  rw [rdL_at next j (by omega), List.length_map]
  have := (v8 next[j] (List.getElem_mem _)).1
  omega
theorem DfaTrims : semigrouplaw07_DfaTrims.Pure := by
  intro x hx
  have A : Ev (fun k => (semigrouplaw07_awake.f k).bind fun t => some t) true := ev_bind awake_ev (ev_some true)
  refine Ev.rounds (ev_bind (dtrim_ev _ _ _ _) (ev_bind (valid_ev _ _ _ _) ?_))
  by_cases hv : valE x.f0 x.f1 x.f2 x.f3 = 0
  · rw [if_pos hv]
    obtain ⟨h1, h2, h3, h4⟩ := trim_small hv
    refine ev_pos (by simp [hv]) (ev_bind (rtrim_ev _ _ _ _ hv) (ev_bind (same7_ev _ _ _ _ (Nat.le_trans h1 (by decide)) (Nat.le_trans h2 (by decide)) (fun row hr => Nat.le_trans (h3 row hr) (by decide))) (ev_pos rfl (ev_bind (same_ev _ _ (Nat.le_trans h4 (by decide))) (ev_pos (by simp) A)))))
  · rw [if_neg hv]
    exact ev_neg (by simp [hv]) (ev_bind (same7_ev _ _ _ _ (by simp) (by simp) (by simp)) (ev_pos rfl (ev_pos rfl A)))

end Go.Proofs.Ytpjbmgoagehjkaa.Pure
