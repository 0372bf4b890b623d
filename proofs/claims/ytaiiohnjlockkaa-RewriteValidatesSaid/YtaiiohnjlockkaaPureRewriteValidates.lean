/- rewrite.Validate says of any list of rules and any number of letters what the reference says; no condition. -/
import Derived.Test.YtaiiohnjlockkaaQRewriteValidates
namespace Go.Proofs.Ytaiiohnjlockkaa.Pure
open Go.RowKit Go.Proofs.Ytaiiohnjlockkaa.PRewriteValidates Go.Proofs.YtaiiohnjlockkaaW.PrintWords Go.Proofs.YtaiiohnjlockkaaW.PrintLast Go.Proofs.YtaiiohnjlockkaaH
set_option linter.unusedVariables false
set_option linter.unusedSimpArgs false

/-- What makes a word of the first n letters. -/
def VW (s : ByteArray) (n : Int) : Prop := 1 ≤ n ∧ n ≤ 6 ∧ s.size ≤ 2048 ∧ ∀ j : Nat, j < s.size → 97 ≤ bt s j ∧ (bt s j - 97) % 256 < n
theorem wvalid_l0 (s : ByteArray) (n : Int) (hs : s.size ≤ 2048) : ∀ (d i : Nat), s.size - i = d → i ≤ s.size →
    ∃ r : Bool, Ev (fun k => word_Valid.l0 k s n (i : Int)) r ∧ (r = true ↔ ∀ j : Nat, i ≤ j → j < s.size → 97 ≤ bt s j ∧ (bt s j - 97) % 256 < n) := by
  intro d
  induction d with
  | zero =>
    intro i hd hi
    exact ⟨true, Ev.step (fun _ => by simp only [word_Valid.l0]; rfl) (ev_neg (by omega) (ev_some true)), fun _ j _ _ => by omega, fun _ => rfl⟩
  | succ d ih =>
    intro i hd hi
    have hlt : i < s.size := by omega
    by_cases h1 : bt s i < 97
    · exact ⟨false, Ev.step (fun _ => by simp only [word_Valid.l0]; rfl) (ev_pos (by omega) (ev_pos (by omega) (ev_pos h1 (ev_some false)))), fun h => (by cases h), fun h => by have := (h i (Nat.le_refl _) hlt).1; omega⟩
    · by_cases h2 : (bt s i - 97) % 256 ≥ n
      · exact ⟨false, Ev.step (fun _ => by simp only [word_Valid.l0]; rfl) (ev_pos (by omega) (ev_pos (by omega) (ev_neg h1 (ev_pos h2 (ev_some false))))), fun h => (by cases h), fun h => by have := (h i (Nat.le_refl _) hlt).2; omega⟩
      · obtain ⟨r, hr, he⟩ := ih (i + 1) (by omega) (by omega)
        refine ⟨r, Ev.step (fun _ => by simp only [word_Valid.l0]; rfl) (ev_pos (by omega) (ev_pos (by omega) (ev_neg h1 (ev_neg h2 ?_)))), ?_⟩
        · rw [wrap_succ hlt (by omega)]
          exact hr
        · rw [he]
          constructor
          · intro h j h3 h4
            by_cases e : j = i
            · subst e
              exact ⟨by omega, by omega⟩
            · exact h j (by omega) h4
          · intro h j h3 h4
            exact h j (by omega) h4
theorem wvalid_ev (s : ByteArray) (n : Int) : ∃ r : Bool, Ev (fun k => word_Valid.f k s n) r ∧ (r = true ↔ VW s n) := by
  by_cases h1 : n < 1
  · exact ⟨false, ev_pos h1 (Ev.step (fun _ => by simp only [word_Valid.j0]; rfl) (ev_pos (Eq.refl true) (ev_some false))), fun h => (by cases h), fun h => by have := h.1; omega⟩
  · by_cases h2 : n > 6
    · exact ⟨false, ev_neg h1 (ev_pos h2 (Ev.step (fun _ => by simp only [word_Valid.j0]; rfl) (ev_pos (Eq.refl true) (ev_some false)))), fun h => (by cases h), fun h => by have := h.2.1; omega⟩
    · by_cases h3 : (s.size : Int) > 2048
      · exact ⟨false, ev_neg h1 (ev_neg h2 (Ev.step (fun _ => by simp only [word_Valid.j0]; rfl) (ev_pos (by simpa using h3) (ev_some false)))), fun h => (by cases h), fun h => by have := h.2.2.1; omega⟩
      · obtain ⟨r, hr, he⟩ := wvalid_l0 s n (by omega) _ 0 rfl (by omega)
        refine ⟨r, ev_neg h1 (ev_neg h2 (Ev.step (fun _ => by simp only [word_Valid.j0]; rfl) (ev_neg (by simpa using h3) hr))), ?_⟩
        rw [he]
        exact ⟨fun h => ⟨by omega, by omega, by omega, fun j hj => h j (by omega) hj⟩, fun h j _ hj => h.2.2.2 j hj⟩

theorem refwvalid_l0 (s : ByteArray) (n : Int) (hs : s.size ≤ 2048) : ∀ (d i : Nat), s.size - i = d → i ≤ s.size →
    ∃ r : Bool, Ev (fun k => semigroupref01_Valid.l0 k s n (i : Int)) r ∧ (r = true ↔ ∀ j : Nat, i ≤ j → j < s.size → 97 ≤ bt s j ∧ (bt s j - 97) % 256 < n) := by
  intro d
  induction d with
  | zero =>
    intro i hd hi
    exact ⟨true, Ev.step (fun _ => by simp only [semigroupref01_Valid.l0]; rfl) (ev_neg (by omega) (ev_some true)), fun _ j _ _ => by omega, fun _ => rfl⟩
  | succ d ih =>
    intro i hd hi
    have hlt : i < s.size := by omega
    by_cases h1 : bt s i < 97
    · exact ⟨false, Ev.step (fun _ => by simp only [semigroupref01_Valid.l0]; rfl) (ev_pos (by omega) (ev_pos (by omega) (ev_pos h1 (ev_some false)))), fun h => (by cases h), fun h => by have := (h i (Nat.le_refl _) hlt).1; omega⟩
    · by_cases h2 : (bt s i - 97) % 256 ≥ n
      · exact ⟨false, Ev.step (fun _ => by simp only [semigroupref01_Valid.l0]; rfl) (ev_pos (by omega) (ev_pos (by omega) (ev_neg h1 (ev_pos h2 (ev_some false))))), fun h => (by cases h), fun h => by have := (h i (Nat.le_refl _) hlt).2; omega⟩
      · obtain ⟨r, hr, he⟩ := ih (i + 1) (by omega) (by omega)
        refine ⟨r, Ev.step (fun _ => by simp only [semigroupref01_Valid.l0]; rfl) (ev_pos (by omega) (ev_pos (by omega) (ev_neg h1 (ev_neg h2 ?_)))), ?_⟩
        · rw [wrap_succ hlt (by omega)]
          exact hr
        · rw [he]
          constructor
          · intro h j h3 h4
            by_cases e : j = i
            · subst e
              exact ⟨by omega, by omega⟩
            · exact h j (by omega) h4
          · intro h j h3 h4
            exact h j (by omega) h4
theorem may_eq (n : Int) : semigroupref01_MayLetters.f n = some (decide (1 ≤ n ∧ n ≤ 6)) := by
  unfold semigroupref01_MayLetters.f
  by_cases h : n ≥ 1
  · rw [if_pos h]
    by_cases h2 : n ≤ 6
    · simp [h2]; omega
    · simp [h2]
  · rw [if_neg h]
    simp; omega
theorem refwvalid_ev (s : ByteArray) (n : Int) : ∃ r : Bool, Ev (fun k => semigroupref01_Valid.f k s n) r ∧ (r = true ↔ VW s n) := by
  by_cases h1 : 1 ≤ n ∧ n ≤ 6
  · by_cases h3 : (s.size : Int) > 2048
    · exact ⟨false, ev_bind0 (may_eq n) (ev_pos (by simpa using h1) (Ev.step (fun _ => by simp only [semigroupref01_Valid.j0]; rfl) (ev_pos (by simpa using h3) (ev_some false)))), fun h => (by cases h), fun h => by have := h.2.2.1; omega⟩
    · obtain ⟨r, hr, he⟩ := refwvalid_l0 s n (by omega) _ 0 rfl (by omega)
      refine ⟨r, ev_bind0 (may_eq n) (ev_pos (by simpa using h1) (Ev.step (fun _ => by simp only [semigroupref01_Valid.j0]; rfl) (ev_neg (by simpa using h3) hr))), ?_⟩
      rw [he]
      exact ⟨fun h => ⟨by omega, by omega, by omega, fun j hj => h j (by omega) hj⟩, fun h j _ hj => h.2.2.2 j hj⟩
  · exact ⟨false, ev_bind0 (may_eq n) (ev_neg (by simpa using h1) (Ev.step (fun _ => by simp only [semigroupref01_Valid.j0]; rfl) (ev_pos (Eq.refl true) (ev_some false)))), fun h => (by cases h), fun h => by exact absurd ⟨h.1, h.2.1⟩ h1⟩
theorem wvalid_both (s : ByteArray) (n : Int) : ∃ r : Bool, Ev (fun k => word_Valid.f k s n) r ∧ Ev (fun k => semigroupref01_Valid.f k s n) r ∧ (r = true ↔ VW s n) := by
  obtain ⟨r, h1, h2⟩ := wvalid_ev s n
  obtain ⟨r', h3, h4⟩ := refwvalid_ev s n
  have e : r' = r := by rw [Bool.eq_iff_iff, h2, h4]
  subst e
  exact ⟨r', h1, h3, h2⟩

/-- Shortlex order of two words: less, equal, greater. -/
def cmpW (a b : ByteArray) : Int := if a.size < b.size then -1 else if b.size < a.size then 1 else if Op.bytesLess a.toList b.toList = true then -1 else if Op.bytesLess b.toList a.toList = true then 1 else 0
theorem wcompare_ev (a b : ByteArray) : Ev (fun k => word_Compare.f k a b) (cmpW a b) := by
  by_cases h : (a.size : Int) = b.size
  · refine ev_pos h (Ev.step (fun _ => by simp only [word_Compare.j0]; rfl) (ev_neg (by simp) (ev_pos h ?_)))
    by_cases h1 : Op.bytesLess a.toList b.toList = true
    · exact ev_pos h1 (ev_eq (ev_some _) (by rw [cmpW, if_neg (by omega), if_neg (by omega), if_pos h1]))
    · refine ev_neg h1 ?_
      by_cases h2 : Op.bytesLess b.toList a.toList = true
      · exact ev_pos h2 (ev_eq (ev_some _) (by rw [cmpW, if_neg (by omega), if_neg (by omega), if_neg h1, if_pos h2]))
      · exact ev_neg h2 (ev_eq (ev_some _) (by rw [cmpW, if_neg (by omega), if_neg (by omega), if_neg h1, if_neg h2]))
  · refine ev_neg h (Ev.step (fun _ => by simp only [word_Compare.j0]; rfl) ?_)
    by_cases h1 : (a.size : Int) < b.size
    · exact ev_pos (by simpa using h1) (ev_eq (ev_some _) (by rw [cmpW, if_pos (by omega)]))
    · exact ev_neg (by simpa using h1) (ev_neg h (ev_eq (ev_some _) (by rw [cmpW, if_neg (by omega), if_pos (by omega)])))
theorem toList_len (a : ByteArray) : a.toList.length = a.size := by
  rw [ByteArray.toList_eq]; rfl
theorem refwcompare_ev (a b : ByteArray) : Ev (fun k => semigroupref01_Compare.f k a b) (cmpW a b) := by
  by_cases h1 : (a.size : Int) < b.size
  · exact ev_pos h1 (Ev.step (fun _ => by simp only [semigroupref01_Compare.j0]; rfl) (ev_pos (Eq.refl true) (ev_eq (ev_some _) (by rw [cmpW, if_pos (by omega)]))))
  · refine ev_neg h1 ?_
    by_cases h : (a.size : Int) = b.size
    · refine ev_pos h (Ev.step (fun _ => by simp only [semigroupref01_Compare.j0]; rfl) ?_)
      by_cases h1 : Op.bytesLess a.toList b.toList = true
      · exact ev_pos h1 (ev_eq (ev_some _) (by rw [cmpW, if_neg (by omega), if_neg (by omega), if_pos h1]))
      · refine ev_neg h1 ?_
        by_cases h2 : Op.bytesLess b.toList a.toList = true
        · refine ev_neg ?_ (ev_eq (ev_some _) (by rw [cmpW, if_neg (by omega), if_neg (by omega), if_neg h1, if_pos h2]))
          intro e
          rw [e, bl_irrefl] at h2
          cases h2
        · exact ev_pos (bl_eq (by simpa using h1) (by simpa using h2)) (ev_eq (ev_some _) (by rw [cmpW, if_neg (by omega), if_neg (by omega), if_neg h1, if_neg h2]))
    · refine ev_neg h (Ev.step (fun _ => by simp only [semigroupref01_Compare.j0]; rfl) (ev_neg (by simp) (ev_neg ?_ (ev_eq (ev_some _) (by rw [cmpW, if_neg (by omega), if_pos (by omega)])))))
      intro e
      have := congrArg List.length e
      rw [toList_len, toList_len] at this
      omega

theorem rvalidate_l0 (rs : List S41) (n : Int) (hr : rs.length ≤ 2000) : ∀ (d i : Nat), rs.length - i = d → i ≤ rs.length →
    ∃ r : Int, Ev (fun k => rewrite_Validate.l0 k n rs (rs.length : Int) (i : Int)) r ∧ Ev (fun k => semigroupref13_Validate.l0 k n rs (rs.length : Int) (i : Int)) r ∧ (r = 0 ↔ ∀ j : Nat, i ≤ j → j < rs.length → VW (rd_T41 rs j).f0 n ∧ VW (rd_T41 rs j).f1 n ∧ 0 < cmpW (rd_T41 rs j).f0 (rd_T41 rs j).f1) := by
  intro d
  induction d with
  | zero =>
    intro i hd hi
    exact ⟨0, Ev.step (fun _ => by simp only [rewrite_Validate.l0]; rfl) (ev_neg (by omega) (ev_some 0)), Ev.step (fun _ => by simp only [semigroupref13_Validate.l0]; rfl) (ev_neg (by omega) (ev_some 0)), fun _ j _ _ => by omega, fun _ => rfl⟩
  | succ d ih =>
    intro i hd hi
    have hlt : i < rs.length := by omega
    obtain ⟨b1, h1, h1', e1⟩ := wvalid_both (rd_T41 rs i).f0 n
    obtain ⟨b2, h2, h2', e2⟩ := wvalid_both (rd_T41 rs i).f1 n
    suffices H : ∃ r : Int, Ev (fun k => if b1 = true then (word_Valid.f k (rd_T41 rs i).f1 n).bind fun t104 => (if t104 = true then ((word_Compare.f k ((rd_T41 rs i).f0) ((rd_T41 rs i).f1)).bind fun t105 => (if t105 ≤ 0 then (some 6) else (rewrite_Validate.l0 k n rs rs.length (wrap64 (i + 1))))) else (some 6)) else some 6) r ∧ Ev (fun k => if b1 = true then (semigroupref01_Valid.f k (rd_T41 rs i).f1 n).bind fun t104 => (if t104 = true then ((semigroupref01_Compare.f k ((rd_T41 rs i).f0) ((rd_T41 rs i).f1)).bind fun t105 => (if t105 ≤ 0 then (some 6) else (semigroupref13_Validate.l0 k n rs rs.length (wrap64 (i + 1))))) else (some 6)) else some 6) r ∧ (r = 0 ↔ ∀ j : Nat, i ≤ j → j < rs.length → VW (rd_T41 rs j).f0 n ∧ VW (rd_T41 rs j).f1 n ∧ 0 < cmpW (rd_T41 rs j).f0 (rd_T41 rs j).f1) by
      obtain ⟨r, k1, k2, k3⟩ := H
      exact ⟨r, Ev.step (fun _ => by simp only [rewrite_Validate.l0]; rfl) (ev_pos (by omega) (ev_pos (by omega) (ev_pos (by omega) (ev_bind h1 k1)))), Ev.step (fun _ => by simp only [semigroupref13_Validate.l0]; rfl) (ev_pos (by omega) (ev_pos (by omega) (ev_pos (by omega) (ev_bind h1' k2)))), k3⟩
    by_cases c1 : b1 = true
    · by_cases c2 : b2 = true
      · by_cases c3 : cmpW (rd_T41 rs i).f0 (rd_T41 rs i).f1 ≤ 0
        · exact ⟨6, ev_pos c1 (ev_bind h2 (ev_pos c2 (ev_bind (wcompare_ev _ _) (ev_pos c3 (ev_some 6))))), ev_pos c1 (ev_bind h2' (ev_pos c2 (ev_bind (refwcompare_ev _ _) (ev_pos c3 (ev_some 6))))), fun h => (by cases h), fun h => by have := (h i (Nat.le_refl _) hlt).2.2; omega⟩
        · obtain ⟨r, hr1, hr2, he⟩ := ih (i + 1) (by omega) (by omega)
          refine ⟨r, ev_pos c1 (ev_bind h2 (ev_pos c2 (ev_bind (wcompare_ev _ _) (ev_neg c3 ?_)))), ev_pos c1 (ev_bind h2' (ev_pos c2 (ev_bind (refwcompare_ev _ _) (ev_neg c3 ?_)))), ?_⟩
          · rw [wrap_succ hlt (by omega)]; exact hr1
          · rw [wrap_succ hlt (by omega)]; exact hr2
          · rw [he]
            refine ⟨fun h j h3 h4 => ?_, fun h j h3 h4 => h j (by omega) h4⟩
            by_cases e : j = i
            · subst e
              exact ⟨e1.1 c1, e2.1 c2, by omega⟩
            · exact h j (by omega) h4
      · exact ⟨6, ev_pos c1 (ev_bind h2 (ev_neg c2 (ev_some 6))), ev_pos c1 (ev_bind h2' (ev_neg c2 (ev_some 6))), fun h => (by cases h), fun h => absurd (e2.2 (h i (Nat.le_refl _) hlt).2.1) c2⟩
    · exact ⟨6, ev_neg c1 (ev_some 6), ev_neg c1 (ev_some 6), fun h => (by cases h), fun h => absurd (e1.2 (h i (Nat.le_refl _) hlt).1) c1⟩
/-- What makes a system of rules over n letters. -/
def VR (rs : List S41) (n : Int) : Prop := 1 ≤ n ∧ n ≤ 6 ∧ rs.length ≤ 2000 ∧ ∀ j : Nat, j < rs.length → VW (rd_T41 rs j).f0 n ∧ VW (rd_T41 rs j).f1 n ∧ 0 < cmpW (rd_T41 rs j).f0 (rd_T41 rs j).f1
theorem rvalidate_ev (rs : List S41) (n : Int) : ∃ r : Int, Ev (fun k => rewrite_Validate.f k rs n) r ∧ Ev (fun k => semigroupref13_Validate.f k rs n) r ∧ (r = 0 ↔ VR rs n) := by
  by_cases h1 : n < 1
  · exact ⟨1, ev_pos h1 (Ev.step (fun _ => by simp only [rewrite_Validate.j0]; rfl) (ev_pos (Eq.refl true) (ev_some 1))), ev_bind0 (may_eq n) (ev_neg (by simp; omega) (ev_some 1)), fun h => (by cases h), fun h => by have := h.1; omega⟩
  · by_cases h2 : n > 6
    · exact ⟨1, ev_neg h1 (Ev.step (fun _ => by simp only [rewrite_Validate.j0]; rfl) (ev_pos (by simpa using h2) (ev_some 1))), ev_bind0 (may_eq n) (ev_neg (by simp; omega) (ev_some 1)), fun h => (by cases h), fun h => by have := h.2.1; omega⟩
    · by_cases h3 : (rs.length : Int) > 2000
      · exact ⟨3, ev_neg h1 (Ev.step (fun _ => by simp only [rewrite_Validate.j0]; rfl) (ev_neg (by simpa using h2) (ev_pos h3 (ev_some 3)))), ev_bind0 (may_eq n) (ev_pos (by simp; omega) (ev_pos h3 (ev_some 3))), fun h => (by cases h), fun h => by have := h.2.2.1; omega⟩
      · obtain ⟨r, hr1, hr2, he⟩ := rvalidate_l0 rs n (by omega) _ 0 rfl (by omega)
        refine ⟨r, ev_neg h1 (Ev.step (fun _ => by simp only [rewrite_Validate.j0]; rfl) (ev_neg (by simpa using h2) (ev_neg h3 hr1))), ev_bind0 (may_eq n) (ev_pos (by simp; omega) (ev_neg h3 hr2)), ?_⟩
        rw [he]
        exact ⟨fun h => ⟨by omega, by omega, by omega, fun j hj => h j (by omega) hj⟩, fun h j _ hj => h.2.2.2 j hj⟩

theorem awake13_ev : Ev (fun k => semigrouplaw13_awake.f k) true := Ev.of (fun k => semigrouplaw13_awake.mono k) (k := 20) (by kernel_rfl)

theorem RewriteValidates : semigrouplaw13_RewriteValidates.Pure := by
  intro rs n _ _
  obtain ⟨r, h1, h2, _⟩ := rvalidate_ev rs n
  exact Ev.rounds (ev_bind h1 (ev_bind h2 (ev_pos rfl (ev_bind awake13_ev (ev_some _)))))

end Go.Proofs.Ytaiiohnjlockkaa.Pure
