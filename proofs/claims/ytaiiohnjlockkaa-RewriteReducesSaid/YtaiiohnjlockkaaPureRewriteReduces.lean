/- rewrite.Reduce and rewrite.Reduced say of any list of rules and any word what the reference says (of at most 20 rules and words of at most 10 letters), and the error and false where the rules or the word aren't valid; no condition. -/
import Derived.Test.YtaiiohnjlockkaaQRewriteReduces
namespace Go.Proofs.Ytaiiohnjlockkaa.Pure
open Go.RowKit Go.Proofs.Ytaiiohnjlockkaa.PRewriteReduces Go.Proofs.YtaiiohnjlockkaaW.PrintWords Go.Proofs.YtaiiohnjlockkaaW.PrintLast Go.Proofs.YtaiiohnjlockkaaH
set_option linter.unusedVariables false
set_option linter.unusedSimpArgs false

/-- What makes a word of the first n letters. -/
def VW (s : ByteArray) (n : Int) : Prop := 1 ≤ n ∧ n ≤ 6 ∧ s.size ≤ 2048 ∧ ∀ j : Nat, j < s.size → 97 ≤ bt s j ∧ (bt s j - 97) % 256 < n
theorem wvalid_l0 (s : ByteArray) (n : Int) (hs : s.size ≤ 2048) : ∀ (d i : Nat), s.size - i = d → i ≤ s.size →
    ∃ r : Bool, Ev (fun k => word_Valid.l0 k s n (i : Int)) r ∧ (r = true ↔ ∀ j : Nat, i ≤ j → j < s.size → 97 ≤ bt s j ∧ (bt s j - 97) % 256 < n) := by
  intro d
  induction d with
  | zero =>
    intro i hd hi
    exact ⟨true, Ev.step (fun _ => by simp only [word_Valid.l0]; rfl) (ev_neg (by omega) (ev_some true)), fun _ j _ _ => by omega, fun _ => rfl⟩
  | succ d ih =>
    intro i hd hi
    have hlt : i < s.size := by omega
    by_cases h1 : bt s i < 97
    · exact ⟨false, Ev.step (fun _ => by simp only [word_Valid.l0]; rfl) (ev_pos (by omega) (ev_pos (by omega) (ev_pos h1 (ev_some false)))), fun h => (by cases h), fun h => by have := (h i (Nat.le_refl _) hlt).1; omega⟩
    · by_cases h2 : (bt s i - 97) % 256 ≥ n
      · exact ⟨false, Ev.step (fun _ => by simp only [word_Valid.l0]; rfl) (ev_pos (by omega) (ev_pos (by omega) (ev_neg h1 (ev_pos h2 (ev_some false))))), fun h => (by cases h), fun h => by have := (h i (Nat.le_refl _) hlt).2; omega⟩
      · obtain ⟨r, hr, he⟩ := ih (i + 1) (by omega) (by omega)
        refine ⟨r, Ev.step (fun _ => by simp only [word_Valid.l0]; rfl) (ev_pos (by omega) (ev_pos (by omega) (ev_neg h1 (ev_neg h2 ?_)))), ?_⟩
        · rw [wrap_succ hlt (by omega)]
          exact hr
        · rw [he]
          constructor
          · intro h j h3 h4
            by_cases e : j = i
            · subst e
              exact ⟨by omega, by omega⟩
            · exact h j (by omega) h4
          · intro h j h3 h4
            exact h j (by omega) h4
theorem wvalid_ev (s : ByteArray) (n : Int) : ∃ r : Bool, Ev (fun k => word_Valid.f k s n) r ∧ (r = true ↔ VW s n) := by
  by_cases h1 : n < 1
  · exact ⟨false, ev_pos h1 (Ev.step (fun _ => by simp only [word_Valid.j0]; rfl) (ev_pos (Eq.refl true) (ev_some false))), fun h => (by cases h), fun h => by have := h.1; omega⟩
  · by_cases h2 : n > 6
    · exact ⟨false, ev_neg h1 (ev_pos h2 (Ev.step (fun _ => by simp only [word_Valid.j0]; rfl) (ev_pos (Eq.refl true) (ev_some false)))), fun h => (by cases h), fun h => by have := h.2.1; omega⟩
    · by_cases h3 : (s.size : Int) > 2048
      · exact ⟨false, ev_neg h1 (ev_neg h2 (Ev.step (fun _ => by simp only [word_Valid.j0]; rfl) (ev_pos (by simpa using h3) (ev_some false)))), fun h => (by cases h), fun h => by have := h.2.2.1; omega⟩
      · obtain ⟨r, hr, he⟩ := wvalid_l0 s n (by omega) _ 0 rfl (by omega)
        refine ⟨r, ev_neg h1 (ev_neg h2 (Ev.step (fun _ => by simp only [word_Valid.j0]; rfl) (ev_neg (by simpa using h3) hr))), ?_⟩
        rw [he]
        exact ⟨fun h => ⟨by omega, by omega, by omega, fun j hj => h j (by omega) hj⟩, fun h j _ hj => h.2.2.2 j hj⟩

/-- Shortlex order of two words: less, equal, greater. -/
def cmpW (a b : ByteArray) : Int := if a.size < b.size then -1 else if b.size < a.size then 1 else if Op.bytesLess a.toList b.toList = true then -1 else if Op.bytesLess b.toList a.toList = true then 1 else 0
theorem wcompare_ev (a b : ByteArray) : Ev (fun k => word_Compare.f k a b) (cmpW a b) := by
  by_cases h : (a.size : Int) = b.size
  · refine ev_pos h (Ev.step (fun _ => by simp only [word_Compare.j0]; rfl) (ev_neg (by simp) (ev_pos h ?_)))
    by_cases h1 : Op.bytesLess a.toList b.toList = true
    · exact ev_pos h1 (ev_eq (ev_some _) (by rw [cmpW, if_neg (by omega), if_neg (by omega), if_pos h1]))
    · refine ev_neg h1 ?_
      by_cases h2 : Op.bytesLess b.toList a.toList = true
      · exact ev_pos h2 (ev_eq (ev_some _) (by rw [cmpW, if_neg (by omega), if_neg (by omega), if_neg h1, if_pos h2]))
      · exact ev_neg h2 (ev_eq (ev_some _) (by rw [cmpW, if_neg (by omega), if_neg (by omega), if_neg h1, if_neg h2]))
  · refine ev_neg h (Ev.step (fun _ => by simp only [word_Compare.j0]; rfl) ?_)
    by_cases h1 : (a.size : Int) < b.size
    · exact ev_pos (by simpa using h1) (ev_eq (ev_some _) (by rw [cmpW, if_pos (by omega)]))
    · exact ev_neg (by simpa using h1) (ev_neg h (ev_eq (ev_some _) (by rw [cmpW, if_neg (by omega), if_pos (by omega)])))
theorem toList_len (a : ByteArray) : a.toList.length = a.size := by
  rw [ByteArray.toList_eq]; rfl
theorem refwcompare_ev (a b : ByteArray) : Ev (fun k => semigroupref01_Compare.f k a b) (cmpW a b) := by
  by_cases h1 : (a.size : Int) < b.size
  · exact ev_pos h1 (Ev.step (fun _ => by simp only [semigroupref01_Compare.j0]; rfl) (ev_pos (Eq.refl true) (ev_eq (ev_some _) (by rw [cmpW, if_pos (by omega)]))))
  · refine ev_neg h1 ?_
    by_cases h : (a.size : Int) = b.size
    · refine ev_pos h (Ev.step (fun _ => by simp only [semigroupref01_Compare.j0]; rfl) ?_)
      by_cases h1 : Op.bytesLess a.toList b.toList = true
      · exact ev_pos h1 (ev_eq (ev_some _) (by rw [cmpW, if_neg (by omega), if_neg (by omega), if_pos h1]))
      · refine ev_neg h1 ?_
        by_cases h2 : Op.bytesLess b.toList a.toList = true
        · refine ev_neg ?_ (ev_eq (ev_some _) (by rw [cmpW, if_neg (by omega), if_neg (by omega), if_neg h1, if_pos h2]))
          intro e
          rw [e, bl_irrefl] at h2
          cases h2
        · exact ev_pos (bl_eq (by simpa using h1) (by simpa using h2)) (ev_eq (ev_some _) (by rw [cmpW, if_neg (by omega), if_neg (by omega), if_neg h1, if_neg h2]))
    · refine ev_neg h (Ev.step (fun _ => by simp only [semigroupref01_Compare.j0]; rfl) (ev_neg (by simp) (ev_neg ?_ (ev_eq (ev_some _) (by rw [cmpW, if_neg (by omega), if_pos (by omega)])))))
      intro e
      have := congrArg List.length e
      rw [toList_len, toList_len] at this
      omega

/-- Numbers that are bytes. -/
def Byt (xs : List Int) : Prop := ∀ x ∈ xs, 0 ≤ x ∧ x < 256
theorem byt_of (s : ByteArray) : Byt (bytesOf s) := by
  intro x hx
  obtain ⟨b, _, rfl⟩ := List.mem_map.1 hx
  have := b.toNat_lt
  omega
theorem of_str {xs : List Int} (h : Byt xs) : bytesOf (strOfNums xs) = xs := by
  rw [bytesOf, strOfNums_data, List.map_map]
  refine (List.map_congr_left (fun x hx => ?_)).trans (List.map_id _)
  have := h x hx
  simp only [Function.comp, UInt8.toNat_ofNat', id]
  omega
theorem str_of (s : ByteArray) : strOfNums (bytesOf s) = s := by
  have h : (strOfNums (bytesOf s)).data.toList = s.data.toList := by
    rw [strOfNums_data, bytesOf, List.map_map]
    refine (List.map_congr_left (fun x hx => ?_)).trans (List.map_id _)
    simp
  cases s
  exact congrArg ByteArray.mk (Array.toList_inj.1 h)
theorem of_inj {a b : ByteArray} (h : bytesOf a = bytesOf b) : a = b := by rw [← str_of a, h, str_of]
theorem toList_inj {a b : ByteArray} : a.toList = b.toList ↔ a = b := by
  refine ⟨fun h => ?_, fun h => by rw [h]⟩
  rw [ByteArray.toList_eq, ByteArray.toList_eq] at h
  cases a
  cases b
  exact congrArg ByteArray.mk (Array.toList_inj.1 h)
theorem str_eq {xs : List Int} (h : Byt xs) (s : ByteArray) : ((strOfNums xs).toList == s.toList) = decide (xs = bytesOf s) := by
  rw [Bool.eq_iff_iff, beq_iff_eq, decide_eq_true_eq, toList_inj]
  exact ⟨fun e => by rw [← e, of_str h], fun e => by rw [e, str_of]⟩
theorem bt_at (s : ByteArray) (i : Nat) (h : i < s.size) : bt s i = (bytesOf s)[i]'(by rw [bytesOf_length]; exact h) := by
  rw [bt, dif_pos (by simpa using h)]
  simp [bytesOf]
  rfl
/-- The letters of a word. -/
def Let (xs : List Int) (n : Int) : Prop := ∀ x ∈ xs, 97 ≤ x ∧ x < 97 + n
theorem vw_iff (s : ByteArray) (n : Int) : VW s n ↔ 1 ≤ n ∧ n ≤ 6 ∧ (bytesOf s).length ≤ 2048 ∧ Let (bytesOf s) n := by
  unfold VW
  rw [bytesOf_length]
  refine and_congr_right fun h1 => and_congr_right fun h2 => and_congr_right fun _ => ⟨fun h x hx => ?_, fun h j hj => ?_⟩
  · obtain ⟨j, hj, rfl⟩ := List.getElem_of_mem hx
    have h3 := h j (by rw [bytesOf_length] at hj; exact hj)
    rw [bt_at s j (by rw [bytesOf_length] at hj; exact hj)] at h3
    have := byt_of s _ hx
    omega
  · rw [bt_at s j hj]
    have := h _ (List.getElem_mem (by rw [bytesOf_length]; exact hj))
    omega
theorem Let.byt {xs : List Int} {n : Int} (h : Let xs n) (hn : n ≤ 6) : Byt xs := fun x hx => by have := h x hx; omega

theorem refwvalid_l0 (s : ByteArray) (n : Int) (hs : s.size ≤ 2048) : ∀ (d i : Nat), s.size - i = d → i ≤ s.size →
    ∃ r : Bool, Ev (fun k => semigroupref01_Valid.l0 k s n (i : Int)) r ∧ (r = true ↔ ∀ j : Nat, i ≤ j → j < s.size → 97 ≤ bt s j ∧ (bt s j - 97) % 256 < n) := by
  intro d
  induction d with
  | zero =>
    intro i hd hi
    exact ⟨true, Ev.step (fun _ => by simp only [semigroupref01_Valid.l0]; rfl) (ev_neg (by omega) (ev_some true)), fun _ j _ _ => by omega, fun _ => rfl⟩
  | succ d ih =>
    intro i hd hi
    have hlt : i < s.size := by omega
    by_cases h1 : bt s i < 97
    · exact ⟨false, Ev.step (fun _ => by simp only [semigroupref01_Valid.l0]; rfl) (ev_pos (by omega) (ev_pos (by omega) (ev_pos h1 (ev_some false)))), fun h => (by cases h), fun h => by have := (h i (Nat.le_refl _) hlt).1; omega⟩
    · by_cases h2 : (bt s i - 97) % 256 ≥ n
      · exact ⟨false, Ev.step (fun _ => by simp only [semigroupref01_Valid.l0]; rfl) (ev_pos (by omega) (ev_pos (by omega) (ev_neg h1 (ev_pos h2 (ev_some false))))), fun h => (by cases h), fun h => by have := (h i (Nat.le_refl _) hlt).2; omega⟩
      · obtain ⟨r, hr, he⟩ := ih (i + 1) (by omega) (by omega)
        refine ⟨r, Ev.step (fun _ => by simp only [semigroupref01_Valid.l0]; rfl) (ev_pos (by omega) (ev_pos (by omega) (ev_neg h1 (ev_neg h2 ?_)))), ?_⟩
        · rw [wrap_succ hlt (by omega)]
          exact hr
        · rw [he]
          constructor
          · intro h j h3 h4
            by_cases e : j = i
            · subst e
              exact ⟨by omega, by omega⟩
            · exact h j (by omega) h4
          · intro h j h3 h4
            exact h j (by omega) h4
theorem may_eq (n : Int) : semigroupref01_MayLetters.f n = some (decide (1 ≤ n ∧ n ≤ 6)) := by
  unfold semigroupref01_MayLetters.f
  by_cases h : n ≥ 1
  · rw [if_pos h]
    by_cases h2 : n ≤ 6
    · simp [h2]; omega
    · simp [h2]
  · rw [if_neg h]
    simp; omega
theorem refwvalid_ev (s : ByteArray) (n : Int) : ∃ r : Bool, Ev (fun k => semigroupref01_Valid.f k s n) r ∧ (r = true ↔ VW s n) := by
  by_cases h1 : 1 ≤ n ∧ n ≤ 6
  · by_cases h3 : (s.size : Int) > 2048
    · exact ⟨false, ev_bind0 (may_eq n) (ev_pos (by simpa using h1) (Ev.step (fun _ => by simp only [semigroupref01_Valid.j0]; rfl) (ev_pos (by simpa using h3) (ev_some false)))), fun h => (by cases h), fun h => by have := h.2.2.1; omega⟩
    · obtain ⟨r, hr, he⟩ := refwvalid_l0 s n (by omega) _ 0 rfl (by omega)
      refine ⟨r, ev_bind0 (may_eq n) (ev_pos (by simpa using h1) (Ev.step (fun _ => by simp only [semigroupref01_Valid.j0]; rfl) (ev_neg (by simpa using h3) hr))), ?_⟩
      rw [he]
      exact ⟨fun h => ⟨by omega, by omega, by omega, fun j hj => h j (by omega) hj⟩, fun h j _ hj => h.2.2.2 j hj⟩
  · exact ⟨false, ev_bind0 (may_eq n) (ev_neg (by simpa using h1) (Ev.step (fun _ => by simp only [semigroupref01_Valid.j0]; rfl) (ev_pos (Eq.refl true) (ev_some false)))), fun h => (by cases h), fun h => by exact absurd ⟨h.1, h.2.1⟩ h1⟩
theorem wvalid_both (s : ByteArray) (n : Int) : ∃ r : Bool, Ev (fun k => word_Valid.f k s n) r ∧ Ev (fun k => semigroupref01_Valid.f k s n) r ∧ (r = true ↔ VW s n) := by
  obtain ⟨r, h1, h2⟩ := wvalid_ev s n
  obtain ⟨r', h3, h4⟩ := refwvalid_ev s n
  have e : r' = r := by rw [Bool.eq_iff_iff, h2, h4]
  subst e
  exact ⟨r', h1, h3, h2⟩

theorem rvalidate_l0 (rs : List S41) (n : Int) (hr : rs.length ≤ 2000) : ∀ (d i : Nat), rs.length - i = d → i ≤ rs.length →
    ∃ r : Int, Ev (fun k => rewrite_Validate.l0 k n rs (rs.length : Int) (i : Int)) r ∧ Ev (fun k => semigroupref13_Validate.l0 k n rs (rs.length : Int) (i : Int)) r ∧ (r = 0 ↔ ∀ j : Nat, i ≤ j → j < rs.length → VW (rd_T41 rs j).f0 n ∧ VW (rd_T41 rs j).f1 n ∧ 0 < cmpW (rd_T41 rs j).f0 (rd_T41 rs j).f1) := by
  intro d
  induction d with
  | zero =>
    intro i hd hi
    exact ⟨0, Ev.step (fun _ => by simp only [rewrite_Validate.l0]; rfl) (ev_neg (by omega) (ev_some 0)), Ev.step (fun _ => by simp only [semigroupref13_Validate.l0]; rfl) (ev_neg (by omega) (ev_some 0)), fun _ j _ _ => by omega, fun _ => rfl⟩
  | succ d ih =>
    intro i hd hi
    have hlt : i < rs.length := by omega
    obtain ⟨b1, h1, h1', e1⟩ := wvalid_both (rd_T41 rs i).f0 n
    obtain ⟨b2, h2, h2', e2⟩ := wvalid_both (rd_T41 rs i).f1 n
    suffices H : ∃ r : Int, Ev (fun k => if b1 = true then (word_Valid.f k (rd_T41 rs i).f1 n).bind fun t104 => (if t104 = true then ((word_Compare.f k ((rd_T41 rs i).f0) ((rd_T41 rs i).f1)).bind fun t105 => (if t105 ≤ 0 then (some 6) else (rewrite_Validate.l0 k n rs rs.length (wrap64 (i + 1))))) else (some 6)) else some 6) r ∧ Ev (fun k => if b1 = true then (semigroupref01_Valid.f k (rd_T41 rs i).f1 n).bind fun t104 => (if t104 = true then ((semigroupref01_Compare.f k ((rd_T41 rs i).f0) ((rd_T41 rs i).f1)).bind fun t105 => (if t105 ≤ 0 then (some 6) else (semigroupref13_Validate.l0 k n rs rs.length (wrap64 (i + 1))))) else (some 6)) else some 6) r ∧ (r = 0 ↔ ∀ j : Nat, i ≤ j → j < rs.length → VW (rd_T41 rs j).f0 n ∧ VW (rd_T41 rs j).f1 n ∧ 0 < cmpW (rd_T41 rs j).f0 (rd_T41 rs j).f1) by
      obtain ⟨r, k1, k2, k3⟩ := H
      exact ⟨r, Ev.step (fun _ => by simp only [rewrite_Validate.l0]; rfl) (ev_pos (by omega) (ev_pos (by omega) (ev_pos (by omega) (ev_bind h1 k1)))), Ev.step (fun _ => by simp only [semigroupref13_Validate.l0]; rfl) (ev_pos (by omega) (ev_pos (by omega) (ev_pos (by omega) (ev_bind h1' k2)))), k3⟩
    by_cases c1 : b1 = true
    · by_cases c2 : b2 = true
      · by_cases c3 : cmpW (rd_T41 rs i).f0 (rd_T41 rs i).f1 ≤ 0
        · exact ⟨6, ev_pos c1 (ev_bind h2 (ev_pos c2 (ev_bind (wcompare_ev _ _) (ev_pos c3 (ev_some 6))))), ev_pos c1 (ev_bind h2' (ev_pos c2 (ev_bind (refwcompare_ev _ _) (ev_pos c3 (ev_some 6))))), fun h => (by cases h), fun h => by have := (h i (Nat.le_refl _) hlt).2.2; omega⟩
        · obtain ⟨r, hr1, hr2, he⟩ := ih (i + 1) (by omega) (by omega)
          refine ⟨r, ev_pos c1 (ev_bind h2 (ev_pos c2 (ev_bind (wcompare_ev _ _) (ev_neg c3 ?_)))), ev_pos c1 (ev_bind h2' (ev_pos c2 (ev_bind (refwcompare_ev _ _) (ev_neg c3 ?_)))), ?_⟩
          · rw [wrap_succ hlt (by omega)]; exact hr1
          · rw [wrap_succ hlt (by omega)]; exact hr2
          · rw [he]
            refine ⟨fun h j h3 h4 => ?_, fun h j h3 h4 => h j (by omega) h4⟩
            by_cases e : j = i
            · subst e
              exact ⟨e1.1 c1, e2.1 c2, by omega⟩
            · exact h j (by omega) h4
      · exact ⟨6, ev_pos c1 (ev_bind h2 (ev_neg c2 (ev_some 6))), ev_pos c1 (ev_bind h2' (ev_neg c2 (ev_some 6))), fun h => (by cases h), fun h => absurd (e2.2 (h i (Nat.le_refl _) hlt).2.1) c2⟩
    · exact ⟨6, ev_neg c1 (ev_some 6), ev_neg c1 (ev_some 6), fun h => (by cases h), fun h => absurd (e1.2 (h i (Nat.le_refl _) hlt).1) c1⟩
/-- What makes a system of rules over n letters. -/
def VR (rs : List S41) (n : Int) : Prop := 1 ≤ n ∧ n ≤ 6 ∧ rs.length ≤ 2000 ∧ ∀ j : Nat, j < rs.length → VW (rd_T41 rs j).f0 n ∧ VW (rd_T41 rs j).f1 n ∧ 0 < cmpW (rd_T41 rs j).f0 (rd_T41 rs j).f1
theorem rvalidate_ev (rs : List S41) (n : Int) : ∃ r : Int, Ev (fun k => rewrite_Validate.f k rs n) r ∧ Ev (fun k => semigroupref13_Validate.f k rs n) r ∧ (r = 0 ↔ VR rs n) := by
  by_cases h1 : n < 1
  · exact ⟨1, ev_pos h1 (Ev.step (fun _ => by simp only [rewrite_Validate.j0]; rfl) (ev_pos (Eq.refl true) (ev_some 1))), ev_bind0 (may_eq n) (ev_neg (by simp; omega) (ev_some 1)), fun h => (by cases h), fun h => by have := h.1; omega⟩
  · by_cases h2 : n > 6
    · exact ⟨1, ev_neg h1 (Ev.step (fun _ => by simp only [rewrite_Validate.j0]; rfl) (ev_pos (by simpa using h2) (ev_some 1))), ev_bind0 (may_eq n) (ev_neg (by simp; omega) (ev_some 1)), fun h => (by cases h), fun h => by have := h.2.1; omega⟩
    · by_cases h3 : (rs.length : Int) > 2000
      · exact ⟨3, ev_neg h1 (Ev.step (fun _ => by simp only [rewrite_Validate.j0]; rfl) (ev_neg (by simpa using h2) (ev_pos h3 (ev_some 3)))), ev_bind0 (may_eq n) (ev_pos (by simp; omega) (ev_pos h3 (ev_some 3))), fun h => (by cases h), fun h => by have := h.2.2.1; omega⟩
      · obtain ⟨r, hr1, hr2, he⟩ := rvalidate_l0 rs n (by omega) _ 0 rfl (by omega)
        refine ⟨r, ev_neg h1 (Ev.step (fun _ => by simp only [rewrite_Validate.j0]; rfl) (ev_neg (by simpa using h2) (ev_neg h3 hr1))), ev_bind0 (may_eq n) (ev_pos (by simp; omega) (ev_neg h3 hr2)), ?_⟩
        rw [he]
        exact ⟨fun h => ⟨by omega, by omega, by omega, fun j hj => h j (by omega) hj⟩, fun h j _ hj => h.2.2.2 j hj⟩

abbrev LL (rs : List S41) (j : Nat) : List Int := bytesOf (rd_T41 rs (j : Int)).f0
abbrev RR (rs : List S41) (j : Nat) : List Int := bytesOf (rd_T41 rs (j : Int)).f1
theorem at_eq (a : ByteArray) (b : List Int) (i : Nat) (hb : Byt b) (hi : i ≤ b.length) (hl : b.length ≤ 140737488355328) (ha : a.size ≤ 140737488355328) : rewrite_at.f a b (i : Int) = some (decide (bytesOf a <+: b.drop i)) := by
  have w1 : wrap64 ((b.length : Int) - i) = (b.length : Int) - i := by unfold wrap64; omega
  have w2 : wrap64 ((i : Int) + a.size) = ((i + a.size : Nat) : Int) := by unfold wrap64; omega
  unfold rewrite_at.f
  rw [w1, w2]
  by_cases h : (a.size : Int) ≤ (b.length : Int) - i
  · rw [if_pos h, if_pos (by omega), if_pos (by omega), if_pos (by omega)]
    simp only [Int.toNat_natCast]
    have e : (b.take (i + a.size)).drop i = (b.drop i).take a.size := by rw [List.drop_take]; congr 1; omega
    rw [e, str_eq (fun x hx => hb x (List.mem_of_mem_drop (List.mem_of_mem_take hx)))]
    congr 1
    rw [decide_eq_decide, List.prefix_iff_eq_take, bytesOf_length]
    exact ⟨fun h => h.symm, fun h => h.symm⟩
  · rw [if_neg h]
    congr 1
    symm
    rw [decide_eq_false_iff_not]
    intro hp
    have := hp.length_le
    rw [bytesOf_length, List.length_drop] at this
    omega
/-- The first of the rules from j on, d of them, whose left side stands at offset i. -/
def fr (rs : List S41) (b : List Int) (i : Nat) : Nat → Nat → Option Nat
  | 0, _ => none
  | d + 1, j => if LL rs j <+: b.drop i then some j else fr rs b i d (j + 1)
/-- The least of the offsets from i on, d of them, at which a rule stands. -/
def fo (rs : List S41) (b : List Int) : Nat → Nat → Option (Nat × Nat)
  | 0, _ => none
  | d + 1, i => match fr rs b i rs.length 0 with
    | some j => some (i, j)
    | none => fo rs b d (i + 1)
def enc2 : Option (Nat × Nat) → Int × Int
  | none => (-1, -1)
  | some p => (p.1, p.2)
/-- Rules whose sides are short. -/
def Sml (rs : List S41) : Prop := rs.length ≤ 2000 ∧ ∀ j : Nat, j < rs.length → (rd_T41 rs j).f0.size ≤ 2048 ∧ (rd_T41 rs j).f1.size ≤ 2048
theorem redex_l1 (rs : List S41) (b : List Int) (hs : Sml rs) (hb : Byt b) (hl : b.length ≤ 4096) (i : Nat) (hi : i < b.length) (res : Int × Int) (hnext : fr rs b i rs.length 0 = none → Ev (fun k => rewrite_redex.l0 k rs b (wrap64 ((i : Int) + 1))) res) :
    ∀ (d j : Nat), rs.length - j = d → j ≤ rs.length → fr rs b i rs.length 0 = fr rs b i d j → Ev (fun k => rewrite_redex.l1 k rs b i rs (rs.length : Int) (j : Int)) (match fr rs b i d j with | some j => ((i : Int), (j : Int)) | none => res) := by
  intro d
  induction d with
  | zero =>
    intro j hd hj he
    exact Ev.step (fun _ => by simp only [rewrite_redex.l1]; rfl) (ev_neg (by omega) (hnext (by rw [he]; rfl)))
  | succ d ih =>
    intro j hd hj he
    have hlt : j < rs.length := by omega
    refine Ev.step (fun _ => by simp only [rewrite_redex.l1]; rfl) (ev_pos (by omega) (ev_pos (by omega) (ev_pos (by omega) (ev_bind0 (at_eq _ _ i hb (by omega) (by omega) (by have := (hs.2 j hlt).1; omega)) ?_))))
    by_cases h : LL rs j <+: b.drop i
    · refine ev_pos (by simpa using h) (ev_eq (ev_some _) ?_)
      rw [fr, if_pos h]
    · refine ev_neg (by simpa using h) ?_
      rw [wrap_succ hlt (by have := hs.1; omega)]
      rw [fr, if_neg h] at he ⊢
      exact ih (j + 1) (by omega) (by omega) he
theorem redex_ev (rs : List S41) (b : List Int) (hs : Sml rs) (hb : Byt b) (hl : b.length ≤ 4096) : ∀ (d i : Nat), b.length - i = d → i ≤ b.length → Ev (fun k => rewrite_redex.l0 k rs b (i : Int)) (enc2 (fo rs b d i)) := by
  intro d
  induction d with
  | zero =>
    intro i hd hi
    exact Ev.step (fun _ => by simp only [rewrite_redex.l0]; rfl) (ev_neg (by omega) (ev_some _))
  | succ d ih =>
    intro i hd hi
    have h := redex_l1 rs b hs hb hl i (by omega) (enc2 (fo rs b d (i + 1))) (fun _ => by rw [wrap_succ (n := b.length) (by omega) (by omega)]; exact ih (i + 1) (by omega) (by omega)) rs.length 0 (by omega) (by omega) rfl
    refine Ev.step (fun _ => by simp only [rewrite_redex.l0]; rfl) (ev_pos (by omega) (ev_eq h ?_))
    rw [fo]
    cases fr rs b i rs.length 0 <;> rfl
theorem fr_none {rs : List S41} {b : List Int} {i : Nat} : ∀ {d j : Nat}, fr rs b i d j = none ↔ ∀ q : Nat, j ≤ q → q < j + d → ¬ LL rs q <+: b.drop i
  | 0, j => ⟨fun _ q h1 h2 => by omega, fun _ => rfl⟩
  | d + 1, j => by
    rw [fr]
    constructor
    · intro h q h1 h2
      split at h
      · cases h
      · by_cases e : q = j
        · subst e
          assumption
        · exact fr_none.1 h q (by omega) (by omega)
    · intro h
      rw [if_neg (h j (Nat.le_refl _) (by omega))]
      exact fr_none.2 (fun q h1 h2 => h q (by omega) (by omega))
theorem fr_some {rs : List S41} {b : List Int} {i p : Nat} : ∀ {d j : Nat}, fr rs b i d j = some p → j ≤ p ∧ p < j + d ∧ LL rs p <+: b.drop i
  | 0, j, h => by cases h
  | d + 1, j, h => by
    rw [fr] at h
    split at h
    · cases h
      exact ⟨Nat.le_refl _, by omega, by assumption⟩
    · obtain ⟨h1, h2, h3⟩ := fr_some h
      exact ⟨by omega, by omega, h3⟩
theorem fo_none {rs : List S41} {b : List Int} : ∀ {d i : Nat}, fo rs b d i = none ↔ ∀ q : Nat, i ≤ q → q < i + d → fr rs b q rs.length 0 = none
  | 0, i => ⟨fun _ q h1 h2 => by omega, fun _ => rfl⟩
  | d + 1, i => by
    rw [fo]
    constructor
    · intro h q h1 h2
      split at h
      · cases h
      · by_cases e : q = i
        · subst e
          assumption
        · exact fo_none.1 h q (by omega) (by omega)
    · intro h
      rw [h i (Nat.le_refl _) (by omega)]
      exact fo_none.2 (fun q h1 h2 => h q (by omega) (by omega))
theorem fo_some {rs : List S41} {b : List Int} {p : Nat × Nat} : ∀ {d i : Nat}, fo rs b d i = some p → i ≤ p.1 ∧ p.1 < i + d ∧ fr rs b p.1 rs.length 0 = some p.2 ∧ ∀ q : Nat, i ≤ q → q < p.1 → fr rs b q rs.length 0 = none
  | 0, i, h => by cases h
  | d + 1, i, h => by
    rw [fo] at h
    split at h
    · cases h
      exact ⟨Nat.le_refl _, by omega, by assumption, fun q h1 h2 => by omega⟩
    · obtain ⟨h1, h2, h3, h4⟩ := fo_some h
      refine ⟨by omega, by omega, h3, fun q h5 h6 => ?_⟩
      by_cases e : q = i
      · subst e
        assumption
      · exact h4 q (by omega) h6
theorem fo_skip {rs : List S41} {b : List Int} : ∀ (f d i : Nat), f ≤ d → (∀ q : Nat, i ≤ q → q < i + f → fr rs b q rs.length 0 = none) → fo rs b d i = fo rs b (d - f) (i + f)
  | 0, d, i, _, _ => rfl
  | f + 1, d, i, hd, h => by
    obtain ⟨d, rfl⟩ : ∃ e, d = e + 1 := ⟨d - 1, by omega⟩
    rw [fo, h i (Nat.le_refl _) (by omega)]
    rw [show d + 1 - (f + 1) = d - f by omega, show i + (f + 1) = i + 1 + f by omega]
    exact fo_skip f d (i + 1) (by omega) (fun q h1 h2 => h q (by omega) (by omega))

def u8 (xs : List Int) : List UInt8 := xs.map fun n => UInt8.ofNat n.toNat
theorem str_toList (xs : List Int) : (strOfNums xs).toList = u8 xs := by rw [ByteArray.toList_eq, strOfNums_data]; rfl
theorem toList_u8 (s : ByteArray) : s.toList = u8 (bytesOf s) := by rw [← str_toList, str_of]
theorem bl_trans : ∀ {a b c : List UInt8}, Op.bytesLess a b = true → Op.bytesLess b c = true → Op.bytesLess a c = true
  | [], [], _, h, _ => by simp [Op.bytesLess] at h
  | [], _ :: _, [], _, h => by simp [Op.bytesLess] at h
  | [], _ :: _, _ :: _, _, _ => rfl
  | _ :: _, [], _, h, _ => by simp [Op.bytesLess] at h
  | _ :: _, _ :: _, [], _, h => by simp [Op.bytesLess] at h
  | x :: a, y :: b, z :: c, h, h' => by
    simp only [Op.bytesLess, Bool.or_eq_true, Bool.and_eq_true, decide_eq_true_eq, beq_iff_eq, UInt8.lt_iff_toNat_lt] at h h' ⊢
    rcases h with h | ⟨rfl, h⟩
    · rcases h' with h' | ⟨rfl, h'⟩
      · exact .inl (by omega)
      · exact .inl h
    · rcases h' with h' | ⟨rfl, h'⟩
      · exact .inl h'
      · exact .inr ⟨rfl, bl_trans h h'⟩
theorem bl_pre (p : List UInt8) {a b : List UInt8} (h : Op.bytesLess a b = true) : Op.bytesLess (p ++ a) (p ++ b) = true := by
  induction p with
  | nil => exact h
  | cons x p ih => simp [Op.bytesLess, ih]
theorem bl_suf : ∀ {a b : List UInt8} (s : List UInt8), a.length = b.length → Op.bytesLess a b = true → Op.bytesLess (a ++ s) (b ++ s) = true
  | [], [], _, _, h => by simp [Op.bytesLess] at h
  | [], _ :: _, _, h, _ => by simp at h
  | _ :: _, [], _, h, _ => by simp at h
  | x :: a, y :: b, s, hl, h => by
    simp only [List.cons_append, Op.bytesLess, Bool.or_eq_true, Bool.and_eq_true, decide_eq_true_eq, beq_iff_eq] at h ⊢
    rcases h with h | ⟨rfl, h⟩
    · exact .inl h
    · exact .inr ⟨rfl, bl_suf s (by simpa using hl) h⟩
/-- The shortlex order. -/
def Slx (a b : List Int) : Prop := a.length < b.length ∨ (a.length = b.length ∧ Op.bytesLess (u8 a) (u8 b) = true)
theorem Slx.trans {a b c : List Int} (h : Slx a b) (h' : Slx b c) : Slx a c := by
  rcases h with h | ⟨h, k⟩ <;> rcases h' with h' | ⟨h', k'⟩
  · exact .inl (by omega)
  · exact .inl (by omega)
  · exact .inl (by omega)
  · exact .inr ⟨by omega, bl_trans k k'⟩
theorem Slx.irrefl {a : List Int} (h : Slx a a) : False := by
  rcases h with h | ⟨_, h⟩
  · omega
  · rw [bl_irrefl] at h
    cases h
theorem Slx.put {a b : List Int} (h : Slx a b) (p s : List Int) : Slx (p ++ a ++ s) (p ++ b ++ s) := by
  rcases h with h | ⟨h, k⟩
  · exact .inl (by simp only [List.length_append]; omega)
  · refine .inr ⟨by simp only [List.length_append]; omega, ?_⟩
    simp only [u8, List.map_append] at k ⊢
    rw [List.append_assoc, List.append_assoc]
    exact bl_pre _ (bl_suf _ (by simpa using h) k)
theorem cmp_pos {a b : ByteArray} (h : 0 < cmpW a b) : Slx (bytesOf b) (bytesOf a) := by
  unfold cmpW at h
  unfold Slx
  rw [bytesOf_length, bytesOf_length, ← toList_u8, ← toList_u8]
  split at h
  · omega
  · split at h
    · exact .inl (by assumption)
    · split at h
      · omega
      · split at h
        · exact .inr ⟨by omega, by assumption⟩
        · omega
theorem cmp_neg {a b : ByteArray} (h : Slx (bytesOf a) (bytesOf b)) : cmpW a b ≤ 0 := by
  unfold Slx at h
  rw [bytesOf_length, bytesOf_length, ← toList_u8, ← toList_u8] at h
  unfold cmpW
  rcases h with h | ⟨h, k⟩
  · rw [if_pos h]; omega
  · rw [if_neg (by omega), if_neg (by omega), if_pos k]; omega
theorem cmp_self (a : ByteArray) : cmpW a a ≤ 0 := by
  unfold cmpW
  rw [if_neg (by omega), if_neg (by omega), if_neg (by rw [bl_irrefl]; simp), if_neg (by rw [bl_irrefl]; simp)]
  omega

def Good (b : List Int) : Prop := b.length ≤ 2048 ∧ Let b 6
theorem Good.byt {b : List Int} (h : Good b) : Byt b := h.2.byt (by omega)
/-- What is needed of the rules. -/
def VR2 (rs : List S41) : Prop := rs.length ≤ 2000 ∧ ∀ j : Nat, j < rs.length → Good (LL rs j) ∧ Good (RR rs j) ∧ Slx (RR rs j) (LL rs j)
theorem vr2_of {rs : List S41} {n : Int} (h : VR rs n) : VR2 rs := by
  refine ⟨h.2.2.1, fun j hj => ?_⟩
  obtain ⟨h1, h2, h3⟩ := h.2.2.2 j hj
  obtain ⟨a1, a2, a3, a4⟩ := (vw_iff _ _).1 h1
  obtain ⟨b1, b2, b3, b4⟩ := (vw_iff _ _).1 h2
  exact ⟨⟨a3, fun x hx => by have := a4 x hx; omega⟩, ⟨b3, fun x hx => by have := b4 x hx; omega⟩, cmp_pos h3⟩
theorem VR2.sml {rs : List S41} (h : VR2 rs) : Sml rs := by
  refine ⟨h.1, fun j hj => ?_⟩
  obtain ⟨h1, h2, _⟩ := h.2 j hj
  have e1 := h1.1
  have e2 := h2.1
  rw [bytesOf_length] at e1 e2
  exact ⟨e1, e2⟩
theorem VR2.len {rs : List S41} (h : VR2 rs) {j : Nat} (hj : j < rs.length) : (RR rs j).length ≤ (LL rs j).length ∧ 1 ≤ (LL rs j).length := by
  obtain ⟨_, _, h3⟩ := h.2 j hj
  rcases h3 with h3 | ⟨h3, h4⟩
  · omega
  · refine ⟨by omega, Nat.pos_of_ne_zero fun e => ?_⟩
    have e1 : LL rs j = [] := List.length_eq_zero_iff.1 e
    have e2 : RR rs j = [] := List.length_eq_zero_iff.1 (by omega)
    rw [e1, e2] at h4
    simp [u8, Op.bytesLess] at h4
theorem longest_l0 (rs : List S41) (hs : VR2 rs) : ∀ (d i m : Nat), rs.length - i = d → i ≤ rs.length → m ≤ 2048 → (∀ j : Nat, j < i → (LL rs j).length ≤ m) →
    ∃ far : Nat, Ev (fun k => rewrite_longest.l0 k (m : Int) rs (rs.length : Int) (i : Int)) (far : Int) ∧ far ≤ 2048 ∧ ∀ j : Nat, j < rs.length → (LL rs j).length ≤ far := by
  intro d
  induction d with
  | zero =>
    intro i m hd hi hm h
    exact ⟨m, Ev.step (fun _ => by simp only [rewrite_longest.l0]; rfl) (ev_neg (by omega) (ev_some _)), hm, fun j hj => h j (by omega)⟩
  | succ d ih =>
    intro i m hd hi hm h
    have hlt : i < rs.length := by omega
    have hl := (hs.sml.2 i hlt).1
    have hs2 := hs.1
    have e : mx (m : Int) ((rd_T41 rs (i : Int)).f0.size : Int) = ((max m (rd_T41 rs (i : Int)).f0.size : Nat) : Int) := by unfold mx; split <;> omega
    obtain ⟨far, h1, h2, h3⟩ := ih (i + 1) (max m (rd_T41 rs (i : Int)).f0.size) (by omega) (by omega) (by omega) (fun j hj => by
      by_cases e : j = i
      · subst e
        rw [bytesOf_length]
        omega
      · have := h j (by omega)
        omega)
    refine ⟨far, Ev.step (fun _ => by simp only [rewrite_longest.l0]; rfl) (ev_pos (by omega) (ev_pos (by omega) (ev_pos (by omega) ?_))), h2, h3⟩
    rw [e, wrap_succ hlt (by omega)]
    exact h1
/-- One rule applied. -/
def stepAt (rs : List S41) (b : List Int) (p : Nat × Nat) : List Int := b.take p.1 ++ RR rs p.2 ++ b.drop (p.1 + (LL rs p.2).length)
def runW (rs : List S41) : Nat → List Int → ByteArray × Int
  | 0, b => match fo rs b b.length 0 with
    | none => (strOfNums b, 0)
    | some _ => (⟨#[]⟩, 3)
  | m + 1, b => match fo rs b b.length 0 with
    | none => (strOfNums b, 0)
    | some p => runW rs m (stepAt rs b p)
theorem split_at {rs : List S41} {b : List Int} {p : Nat × Nat} (h : LL rs p.2 <+: b.drop p.1) : b = b.take p.1 ++ LL rs p.2 ++ b.drop (p.1 + (LL rs p.2).length) := by
  obtain ⟨t, ht⟩ := h
  have e : b.drop (p.1 + (LL rs p.2).length) = t := by
    rw [← List.drop_drop, ← ht, List.drop_left]
  rw [e, List.append_assoc, ht, List.take_append_drop]
theorem step_facts {rs : List S41} {b : List Int} {p : Nat × Nat} (hv : VR2 rs) (hg : Good b) (hp : fo rs b b.length 0 = some p) :
    p.1 < b.length ∧ p.2 < rs.length ∧ p.1 + (LL rs p.2).length ≤ b.length ∧ Good (stepAt rs b p) ∧ Slx (stepAt rs b p) b ∧ p.1 ≤ (stepAt rs b p).length ∧
    ∀ q far : Nat, (∀ j : Nat, j < rs.length → (LL rs j).length ≤ far) → q + far ≤ p.1 → fr rs (stepAt rs b p) q rs.length 0 = none := by
  obtain ⟨_, h1, h2, h3⟩ := fo_some hp
  obtain ⟨_, h4, h5⟩ := fr_some h2
  have hj : p.2 < rs.length := by omega
  have hi : p.1 < b.length := by omega
  have hl := h5.length_le
  rw [List.length_drop] at hl
  obtain ⟨g1, g2, g3⟩ := hv.2 _ hj
  obtain ⟨g4, g5⟩ := hv.len hj
  have hlen : (stepAt rs b p).length = b.length - (LL rs p.2).length + (RR rs p.2).length := by
    simp only [stepAt, List.length_append, List.length_take, List.length_drop]
    omega
  refine ⟨hi, hj, by omega, ⟨?_, ?_⟩, ?_, ?_, ?_⟩
  · have := hg.1
    omega
  · intro x hx
    simp only [stepAt, List.mem_append] at hx
    rcases hx with (hx | hx) | hx
    · exact hg.2 x (List.mem_of_mem_take hx)
    · exact g2.2 x hx
    · exact hg.2 x (List.mem_of_mem_drop hx)
  · have h := g3.put (b.take p.1) (b.drop (p.1 + (LL rs p.2).length))
    rw [← split_at h5] at h
    exact h
  · simp only [stepAt, List.length_append, List.length_take]
    omega
  · intro q far hfar hq
    refine fr_none.2 fun j _ hj2 hpre => ?_
    have hj3 : j < rs.length := by omega
    have hf := hfar j hj3
    by_cases e : q = p.1
    · have := (hv.len hj3).2
      omega
    · refine fr_none.1 (h3 q (by omega) (by omega)) j (by omega) (by omega) ?_
      rw [List.prefix_iff_eq_take] at hpre ⊢
      rw [hpre]
      have e1 : ∀ c : List Int, (c.drop q).take (LL rs j).length = (c.take (q + (LL rs j).length)).drop q := fun c => by rw [List.drop_take]; congr 1; omega
      have e2 : (stepAt rs b p).take (q + (LL rs j).length) = b.take (q + (LL rs j).length) := by
        rw [stepAt, List.append_assoc, List.take_append_of_le_length (by rw [List.length_take]; omega), List.take_take]
        congr 1
        omega
      rw [← hpre, e1, ← e2, ← e1]
      exact hpre
theorem red_c1 {m n : Nat} (h : m + 1 + n = 100000) : ¬ ((n : Int) ≥ 100000) := by omega
theorem red_c2 {i j L A B bl : Nat} (h1 : j < L) (h2 : i + A ≤ bl) (h3 : bl ≤ 2048) (h4 : B ≤ 2048) : 0 ≤ (j : Int) ∧ (j : Int) < L ∧ 0 ≤ (i : Int) ∧ (i : Int) + A ≤ bl ∧ bl + B < 140737488355328 := by omega
theorem red_c3 {i far : Nat} (h1 : i ≤ 2048) (h2 : far ≤ 2048) : mx 0 (wrap64 (wrap64 ((i : Int) - far) + 1)) = ((i + 1 - far : Nat) : Int) := by
  rw [wrap_in (x := (i : Int) - far) (by omega) (by omega), wrap_in (by omega) (by omega)]
  unfold mx
  split <;> omega
theorem reduce_l0 (rs : List S41) (hv : VR2 rs) (far : Nat) (hf : far ≤ 2048) (hfar : ∀ j : Nat, j < rs.length → (LL rs j).length ≤ far) : ∀ (m n f : Nat) (b : List Int), m + n = 100000 → Good b → f ≤ b.length → (∀ q : Nat, q < f → fr rs b q rs.length 0 = none) →
    Ev (fun k => rewrite_reduce.l0 k rs (far : Int) (f : Int) (n : Int) b) (runW rs m b) := by
  intro m
  induction m with
  | zero =>
    intro n f b hn hg hfb hno
    have e : fo rs b (b.length - f) f = fo rs b b.length 0 := by rw [fo_skip f b.length 0 hfb (fun q _ hq => hno q (by omega)), Nat.zero_add]
    refine Ev.step (fun _ => by simp only [rewrite_reduce.l0]; rfl) (ev_bind (redex_ev rs b hv.sml hg.byt (by have := hg.1; omega) _ f rfl hfb) ?_)
    rw [e, runW]
    cases fo rs b b.length 0 with
    | none => exact ev_pos (by simp [enc2]) (ev_some _)
    | some p => exact ev_neg (by simp [enc2]) (ev_pos (by omega) (ev_some _))
  | succ m ih =>
    intro n f b hn hg hfb hno
    have e : fo rs b (b.length - f) f = fo rs b b.length 0 := by rw [fo_skip f b.length 0 hfb (fun q _ hq => hno q (by omega)), Nat.zero_add]
    refine Ev.step (fun _ => by simp only [rewrite_reduce.l0]; rfl) (ev_bind (redex_ev rs b hv.sml hg.byt (by have := hg.1; omega) _ f rfl hfb) ?_)
    rw [e, runW]
    cases hp : fo rs b b.length 0 with
    | none => exact ev_pos (by simp [enc2]) (ev_some _)
    | some p =>
      obtain ⟨h1, h2, h3, h4, h5, h6, h7⟩ := step_facts hv hg hp
      have s1 := (hv.sml.2 _ h2).1
      have s2 := (hv.sml.2 _ h2).2
      have b1 := hg.1
      have h3' := h3
      rw [bytesOf_length] at h3'
      have ef := red_c3 (i := p.1) (far := far) (by omega) hf
      have en : wrap64 ((n : Int) + 1) = ((n + 1 : Nat) : Int) := wrap_in (by omega) (by omega)
      refine ev_neg (by simp [enc2]) (ev_neg (red_c1 hn) (ev_pos (red_c2 h2 h3' b1 s2) ?_))
      simp only [enc2]
      rw [ef, en]
      have eb : b.take (p.1 : Int).toNat ++ bytesOf (rd_T41 rs (p.2 : Int)).f1 ++ b.drop ((p.1 : Int).toNat + (rd_T41 rs (p.2 : Int)).f0.size) = stepAt rs b p := by
        rw [stepAt, bytesOf_length, Int.toNat_natCast]
      rw [eb]
      refine ih (n + 1) (p.1 + 1 - far) (stepAt rs b p) (by omega) h4 ?_ (fun q hq => h7 q far hfar (by omega))
      have := hfar _ h2
      have := (hv.len h2).2
      omega
theorem reduce_ev (rs : List S41) (hv : VR2 rs) (w : ByteArray) (hw : Good (bytesOf w)) : Ev (fun k => rewrite_reduce.f k rs w) (runW rs 100000 (bytesOf w)) := by
  obtain ⟨far, h1, h2, h3⟩ := longest_l0 rs hv _ 0 0 rfl (by omega) (by omega) (fun j hj => by omega)
  have hl := hw.1
  rw [bytesOf_length] at hl
  exact ev_pos (by omega) (ev_bind h1 (reduce_l0 rs hv far h2 h3 100000 0 0 (bytesOf w) rfl hw (by omega) (fun q hq => by omega)))
theorem runW_end (rs : List S41) (hv : VR2 rs) : ∀ (m : Nat) (b : List Int), Good b → (runW rs m b).2 = 3 ∨ ∃ v : List Int, runW rs m b = (strOfNums v, 0) ∧ Good v ∧ fo rs v v.length 0 = none ∧ (v = b ∨ Slx v b)
  | 0, b, hg => by
    rw [runW]
    cases hp : fo rs b b.length 0 with
    | none => exact .inr ⟨b, rfl, hg, hp, .inl rfl⟩
    | some p => exact .inl rfl
  | m + 1, b, hg => by
    rw [runW]
    cases hp : fo rs b b.length 0 with
    | none => exact .inr ⟨b, rfl, hg, hp, .inl rfl⟩
    | some p =>
      obtain ⟨_, _, _, h4, h5, _, _⟩ := step_facts hv hg hp
      rcases runW_end rs hv m _ h4 with h | ⟨v, k1, k2, k3, k4⟩
      · exact .inl h
      · refine .inr ⟨v, k1, k2, k3, .inr ?_⟩
        rcases k4 with rfl | k4
        · exact h5
        · exact k4.trans h5
/-- Whether no rule can be applied. -/
def redB (rs : List S41) (b : List Int) : Bool := (fo rs b b.length 0).isNone
theorem good_of {s : ByteArray} {n : Int} (h : VW s n) : Good (bytesOf s) := by
  obtain ⟨_, h2, h3, h4⟩ := (vw_iff _ _).1 h
  exact ⟨h3, fun x hx => by have := h4 x hx; omega⟩
theorem vw_of {s : ByteArray} (h : Good (bytesOf s)) : VW s 6 := (vw_iff _ _).2 ⟨by omega, by omega, h.1, fun x hx => by have := h.2 x hx; omega⟩
theorem reduced_ev (rs : List S41) (w : ByteArray) (h0 : VR rs 6) (hw : VW w 6) : Ev (fun k => rewrite_Reduced.f k rs w) (redB rs (bytesOf w)) := by
  obtain ⟨r, hr, _, he⟩ := rvalidate_ev rs 6
  obtain ⟨v, hv, _, hve⟩ := wvalid_both w 6
  have hg := good_of hw
  have hl := hg.1
  have hl2 := hl
  rw [bytesOf_length] at hl2
  refine ev_bind hr (ev_pos (he.2 h0) (ev_bind hv (ev_pos (hve.2 hw) (ev_pos (by omega) (ev_bind (redex_ev rs (bytesOf w) (vr2_of h0).sml hg.byt (by omega) (bytesOf w).length 0 rfl (by omega)) ?_)))))
  refine ev_eq (ev_some _) ?_
  unfold redB
  cases fo rs (bytesOf w) (bytesOf w).length 0 with
  | none => rfl
  | some p => exact decide_eq_false (by simp only [enc2]; omega)
theorem Reduce_ev (rs : List S41) (w : ByteArray) (h0 : VR rs 6) (hw : VW w 6) : Ev (fun k => rewrite_Reduce.f k rs w) (runW rs 100000 (bytesOf w)) := by
  obtain ⟨r, hr, _, he⟩ := rvalidate_ev rs 6
  obtain ⟨v, hv, _, hve⟩ := wvalid_both w 6
  exact ev_bind hr (ev_pos (he.2 h0) (ev_bind hv (ev_pos (hve.2 hw) (ev_bind (reduce_ev rs (vr2_of h0) w (good_of hw)) (ev_some _)))))

theorem of_extract (s : ByteArray) (a b : Nat) : bytesOf (s.extract a b) = ((bytesOf s).take b).drop a := by
  unfold bytesOf
  rw [ByteArray.data_extract, Array.toList_extract, List.extract_eq_take_drop, ← List.map_take, ← List.map_drop, List.drop_take]
theorem of_append (a b : ByteArray) : bytesOf (a ++ b) = bytesOf a ++ bytesOf b := by
  unfold bytesOf
  rw [ByteArray.data_append, Array.toList_append, List.map_append]
theorem once_cond (a s : ByteArray) (i : Nat) (hi : i ≤ s.size) : (a.size + i ≤ s.size ∧ (s.extract i (i + a.size)).toList = a.toList) ↔ bytesOf a <+: (bytesOf s).drop i := by
  rw [toList_inj, List.prefix_iff_eq_take, bytesOf_length]
  have e : bytesOf (s.extract i (i + a.size)) = ((bytesOf s).drop i).take a.size := by
    rw [of_extract, List.drop_take]
    congr 1
    omega
  constructor
  · rintro ⟨_, h⟩
    rw [← e, h]
  · intro h
    have hl := congrArg List.length h
    rw [bytesOf_length, List.length_take, List.length_drop, bytesOf_length] at hl
    exact ⟨by omega, of_inj (by rw [e, ← h])⟩
theorem once_j_eq (rs : List S41) (s : ByteArray) (i : Nat) (hi : i ≤ s.size) : ∀ d j : Nat, once_j rs s i d j = fr rs (bytesOf s) i d j
  | 0, _ => rfl
  | d + 1, j => by
    rw [once_j, fr, once_j_eq rs s i hi d (j + 1)]
    by_cases h : bytesOf (rd_T41 rs (j : Int)).f0 <+: (bytesOf s).drop i
    · rw [if_pos ((once_cond _ _ _ hi).2 h), if_pos h]
    · rw [if_neg (fun k => h ((once_cond _ _ _ hi).1 k)), if_neg h]
def onceR (rs : List S41) (s : ByteArray) : Option (Nat × Nat) → ByteArray × Bool
  | none => (s, false)
  | some p => (strOfNums (stepAt rs (bytesOf s) p), true)
theorem once_i_eq (rs : List S41) (s : ByteArray) : ∀ d i : Nat, i + d ≤ s.size → once_i rs s d i = onceR rs s (fo rs (bytesOf s) d i)
  | 0, _, _ => rfl
  | d + 1, i, h => by
    rw [once_i, fo, once_j_eq rs s i (by omega), once_i_eq rs s d (i + 1) (by omega)]
    cases fr rs (bytesOf s) i rs.length 0 with
    | none => rfl
    | some j =>
      simp only [onceR, stepAt]
      congr 1
      apply of_inj
      rw [of_append, of_append, of_extract, of_extract, of_str]
      · rw [List.drop_zero, bytesOf_length, List.take_of_length_le (i := s.size) (by rw [bytesOf_length]; exact Nat.le_refl _)]
      · intro x hx
        simp only [List.mem_append] at hx
        rcases hx with (hx | hx) | hx
        · exact byt_of s x (List.mem_of_mem_take hx)
        · exact byt_of _ x hx
        · exact byt_of s x (List.mem_of_mem_drop hx)
theorem once_eq (rs : List S41) (hv : VR2 rs) (w : ByteArray) (hg : Good (bytesOf w)) : semigroupref13_once.f rs w = some (onceR rs w (fo rs (bytesOf w) (bytesOf w).length 0)) := by
  have hl := hg.1
  rw [bytesOf_length] at hl
  rw [semigroupref13_once.f, if_pos, once_i_eq rs w w.size 0 (by omega), bytesOf_length]
  refine ⟨hv.1, by omega, fun i => ?_, fun x hx => ?_⟩
  · have h := hg.2 ((bytesOf w)[i.val]'(by rw [bytesOf_length]; exact i.isLt)) (List.getElem_mem _)
    rw [← bt_at w i.val i.isLt, bt, dif_pos (by simp)] at h
    simp only [Int.toNat_natCast] at h
    have e : w[i.val]'i.isLt = w[i] := rfl
    rw [← e]
    omega
  · obtain ⟨j, hj, rfl⟩ := List.getElem_of_mem hx
    have h := hv.sml.2 j hj
    have e : rd_T41 rs (j : Int) = rs[j] := by simp [rd_T41, List.getD, hj]
    rw [e] at h
    omega
theorem refreduce_l0 (rs : List S41) (hv : VR2 rs) : ∀ (m n : Nat) (w : ByteArray), m + n = 100000 → Good (bytesOf w) → Ev (fun k => semigroupref13_Reduce.l0 k rs w (n : Int)) (runW rs m (bytesOf w)) := by
  intro m
  induction m with
  | zero =>
    intro n w hn hg
    refine Ev.step (fun _ => by simp only [semigroupref13_Reduce.l0]; rfl) (ev_bind0 (once_eq rs hv w hg) ?_)
    rw [runW]
    cases fo rs (bytesOf w) (bytesOf w).length 0 with
    | none => exact ev_neg (by simp [onceR]) (ev_eq (ev_some _) (by simp only [str_of]))
    | some p => exact ev_pos (Eq.refl true) (ev_pos (by omega) (ev_some _))
  | succ m ih =>
    intro n w hn hg
    refine Ev.step (fun _ => by simp only [semigroupref13_Reduce.l0]; rfl) (ev_bind0 (once_eq rs hv w hg) ?_)
    rw [runW]
    cases hp : fo rs (bytesOf w) (bytesOf w).length 0 with
    | none => exact ev_neg (by simp [onceR]) (ev_eq (ev_some _) (by simp only [str_of]))
    | some p =>
      obtain ⟨_, _, _, h4, _, _, _⟩ := step_facts hv hg hp
      have e := of_str h4.byt
      have hn2 : ¬ ((n : Int) = 100000) := by have := red_c1 hn; omega
      refine ev_pos (Eq.refl true) (ev_neg hn2 ?_)
      have en : wrap64 ((n : Int) + 1) = ((n + 1 : Nat) : Int) := wrap_in (by omega) (by omega)
      rw [en]
      have h := ih (n + 1) (strOfNums (stepAt rs (bytesOf w) p)) (by omega) (by rw [e]; exact h4)
      rw [e] at h
      exact h
theorem refreduce_ev (rs : List S41) (w : ByteArray) (h0 : VR rs 6) (hw : VW w 6) : Ev (fun k => semigroupref13_Reduce.f k rs w) (runW rs 100000 (bytesOf w)) := by
  obtain ⟨v, _, hv, hve⟩ := wvalid_both w 6
  exact ev_bind hv (ev_pos (hve.2 hw) (refreduce_l0 rs (vr2_of h0) 100000 0 w rfl (good_of hw)))
theorem refreduced_eq (rs : List S41) (w : ByteArray) (h0 : VR rs 6) (hw : VW w 6) : semigroupref13_Reduced.f rs w = some (redB rs (bytesOf w)) := by
  rw [semigroupref13_Reduced.f, once_eq rs (vr2_of h0) w (good_of hw), redB]
  cases fo rs (bytesOf w) (bytesOf w).length 0 <;> rfl

theorem awake13_ev : Ev (fun k => semigrouplaw13_awake.f k) true := Ev.of (fun k => semigrouplaw13_awake.mono k) (k := 20) (by kernel_rfl)

theorem reduces_j1 (rs : List S41) (w : ByteArray) (h0 : VR rs 6) (hw : VW w 6) (b : Bool) : Ev (fun k => semigrouplaw13_RewriteReduces.j1 k rs w (runW rs 100000 (bytesOf w)).1 (runW rs 100000 (bytesOf w)).2 (redB rs (bytesOf w)) b) true := by
  refine Ev.step (fun _ => by simp only [semigrouplaw13_RewriteReduces.j1]; rfl) ?_
  cases b with
  | true => exact ev_pos (Eq.refl true) (ev_bind awake13_ev (ev_some _))
  | false => exact ev_neg (by simp) (ev_bind (refreduce_ev rs w h0 hw) (ev_pos rfl (ev_pos rfl (ev_bind0 (refreduced_eq rs w h0 hw) (ev_pos (by simp) (ev_bind awake13_ev (ev_some _)))))))
theorem no_letters : (⟨#[]⟩ : ByteArray).toList = ([] : List UInt8) := by rw [ByteArray.toList_eq]
theorem RewriteReduces : semigrouplaw13_RewriteReduces.Pure := by
  intro rs w _ _
  obtain ⟨r, hr, hr2, he⟩ := rvalidate_ev rs 6
  obtain ⟨v, hv, hv2, hve⟩ := wvalid_both w 6
  refine Ev.rounds ?_
  by_cases c1 : r = 0
  · have h0 := he.1 c1
    by_cases c2 : v = true
    · have hw := hve.1 c2
      refine ev_bind (Reduce_ev rs w h0 hw) (ev_bind (reduced_ev rs w h0 hw) (ev_bind hr2 (ev_pos c1 (ev_bind hv2 (Ev.step (fun _ => by simp only [semigrouplaw13_RewriteReduces.j0]; rfl) (ev_neg (by simp [c2]) ?_))))))
      by_cases c3 : (rs.length : Int) > 20
      · exact ev_pos c3 (reduces_j1 rs w h0 hw true)
      · exact ev_neg c3 (reduces_j1 rs w h0 hw _)
    · exact ev_bind (a := (⟨#[]⟩, 1)) (ev_bind hr (ev_pos c1 (ev_bind hv (ev_neg c2 (ev_some _))))) (ev_bind (a := false) (ev_bind hr (ev_pos c1 (ev_bind hv (ev_neg c2 (ev_some _))))) (ev_bind hr2 (ev_pos c1 (ev_bind hv2 (Ev.step (fun _ => by simp only [semigrouplaw13_RewriteReduces.j0]; rfl) (ev_pos (by simp [c2]) (ev_pos c1 (ev_pos (Eq.refl (1 : Int)) (ev_pos no_letters (ev_neg (by simp) (ev_bind awake13_ev (ev_some _))))))))))))
  · exact ev_bind (a := (⟨#[]⟩, r)) (ev_bind hr (ev_neg c1 (ev_some _))) (ev_bind (a := false) (ev_bind hr (ev_neg c1 (ev_some _))) (ev_bind hr2 (ev_neg c1 (Ev.step (fun _ => by simp only [semigrouplaw13_RewriteReduces.j0]; rfl) (ev_pos (Eq.refl true) (ev_neg c1 (ev_pos (Eq.refl r) (ev_pos no_letters (ev_neg (by simp) (ev_bind awake13_ev (ev_some _)))))))))))

end Go.Proofs.Ytaiiohnjlockkaa.Pure
