/- partition.Canonical and the reference number the classes of any list alike, and they take the same lists for valid; no condition. -/
import Derived.Test.YtjpghckijecdcaaPPartitionCanonicalx1
namespace Go.Proofs.Ytjpghckijecdcaa.Pure
open Go.RowKit Go.Proofs.Ytjpghckijecdcaa.PPartitionCanonical Go.Proofs.YtjpghckijecdcaaW.PrintWords Go.Proofs.YtjpghckijecdcaaW.PrintLast Go.Proofs.YtjpghckijecdcaaH

theorem same_l0 (a b : List Int) (hab : a.length = b.length) (hn : a.length ≤ 140737488355328) : ∀ (d i : Nat), a.length - i = d → i ≤ a.length → a.take i = b.take i →
    Ev (fun k => semigroupref03_Same.l0 k a b (a.length : Int) (i : Int)) (decide (a = b)) := by
  intro d
  induction d with
  | zero =>
    intro i hd hi ht
    refine Ev.step (fun _ => rfl) (ev_neg (by omega) (ev_eq (ev_some true) ?_))
    have h1 : a.take i = a := List.take_of_length_le (by omega)
    have h2 : b.take i = b := List.take_of_length_le (by omega)
    rw [h1, h2] at ht
    simp [ht]
  | succ d ih =>
    intro i hd hi ht
    have hlt : i < a.length := by omega
    refine Ev.step (fun _ => rfl) (ev_pos (by omega) (ev_pos (by omega) (ev_pos (by omega) (ev_pos (by omega) ?_))))
    rw [rd_at a i hlt, rd_at b i (by omega)]
    by_cases h : a[i] = b[i]
    · refine ev_pos h ?_
      rw [wrap_succ hlt hn]
      exact ih (i + 1) (by omega) (by omega) (by rw [List.take_succ_eq_append_getElem hlt, List.take_succ_eq_append_getElem (by omega), ht, h])
    · refine ev_neg h (ev_eq (ev_some false) ?_)
      symm
      rw [decide_eq_false_iff_not]
      rintro rfl
      exact h rfl
theorem same_ev (a b : List Int) (hn : a.length ≤ 140737488355328) : Ev (fun k => semigroupref03_Same.f k a b) (decide (a = b)) := by
  by_cases h : a.length = b.length
  · exact ev_pos (by omega) (same_l0 a b h hn _ 0 rfl (by omega) (by simp))
  · refine ev_neg (by omega) (ev_eq (ev_some false) ?_)
    symm
    rw [decide_eq_false_iff_not]
    rintro rfl
    exact h rfl

theorem valid_l0 (l : List Int) (hn : l.length ≤ 4096) : ∀ (d i n : Nat), l.length - i = d → i ≤ l.length → n ≤ i → Ev (fun k => partition_Valid.l0 k (n : Int) l (l.length : Int) (i : Int)) (rgs n (l.drop i)) := by
  intro d
  induction d with
  | zero =>
    intro i n hd hi hni
    refine Ev.step (fun _ => by simp only [partition_Valid.l0]; rfl) (ev_neg (by omega) (ev_eq (ev_some true) ?_))
    rw [List.drop_of_length_le (by omega)]
    rfl
  | succ d ih =>
    intro i n hd hi hni
    have hlt : i < l.length := by omega
    rw [List.drop_eq_getElem_cons hlt]
    refine Ev.step (fun _ => by simp only [partition_Valid.l0]; rfl) (ev_pos (by omega) (ev_pos (by omega) (ev_pos (by omega) ?_)))
    rw [rd_at l i hlt]
    by_cases h1 : l[i] < 0
    · refine ev_pos h1 (Ev.step (fun _ => by simp only [partition_Valid.j1]; rfl) (ev_pos (Eq.refl true) (ev_eq (ev_some false) ?_)))
      rw [rgs, if_pos (by omega)]
    · refine ev_neg h1 (Ev.step (fun _ => by simp only [partition_Valid.j1]; rfl) ?_)
      by_cases h2 : l[i] > (n : Int)
      · refine ev_pos (by simpa using h2) (ev_eq (ev_some false) ?_)
        rw [rgs, if_pos (by omega)]
      · refine ev_neg (by simpa using h2) ?_
        rw [rgs, if_neg (by omega), wrap_succ hlt (by omega)]
        by_cases h3 : l[i] = (n : Int)
        · refine ev_pos h3 ?_
          rw [wrap_succ (i := n) (n := 5000) (by omega) (by omega), if_pos h3]
          exact ih (i + 1) (n + 1) (by omega) (by omega) (by omega)
        · refine ev_neg h3 ?_
          rw [if_neg h3]
          exact ih (i + 1) n (by omega) (by omega) (by omega)
def vld (l : List Int) : Bool := decide (l.length ≤ 4096) && rgs 0 l
theorem valid_ev (l : List Int) : Ev (fun k => partition_Valid.f k l) (vld l) := by
  by_cases h : l.length ≤ 4096
  · exact ev_neg (by omega) (ev_eq (valid_l0 l h _ 0 0 rfl (by omega) (by omega)) (by simp [vld, h]))
  · exact ev_pos (by omega) (ev_eq (ev_some false) (by simp [vld, h]))

theorem refvalid_ev (l : List Int) : Ev (fun k => semigroupref03_Valid.f k l) (vld l) := by
  by_cases h : l.length ≤ 4096
  · refine ev_pos (by omega) (ev_bind0 (a := (canonL l).2) (by rw [semigroupref03_Canonical.f, if_neg (by omega)]) (ev_bind (same_ev _ _ (by omega)) (ev_eq (ev_some _) ?_)))
    have hc := canon_id l
    have e : (decide (l = (canonL l).2)) = rgs 0 l := by
      rw [Bool.eq_iff_iff, ← hc, decide_eq_true_iff]
      exact eq_comm
    rw [e]
    simp [vld, h]
  · exact ev_neg (by omega) (ev_eq (ev_some false) (by simp [vld, h]))

theorem awake_ev : Ev (fun k => semigrouplaw03_awake.f k) true := by
  refine ev_bind0 (a := [0, 1, 0]) (by decide) (ev_bind (same_ev _ _ (by simp)) (ev_eq (ev_some _) (by simp)))

theorem PartitionCanonical : semigrouplaw03_PartitionCanonical.Pure := by
  intro l _ hl _
  refine Ev.rounds ?_
  by_cases h : l.length ≤ 4096
  · have e1 : partition_Canonical.f l = some (canonL l).2 := by rw [partition_Canonical.f, if_neg (by omega)]
    have e2 : semigroupref03_Canonical.f l = some (canonL l).2 := by rw [semigroupref03_Canonical.f, if_neg (by omega)]
    refine ev_bind0 e1 (ev_bind0 e2 (ev_bind (same_ev _ _ (by rw [canonL_len]; omega)) (ev_pos (by simp) (ev_bind (valid_ev l) (ev_bind (refvalid_ev l) (ev_pos (by simp) (ev_bind (valid_ev _) (ev_pos ?_ (ev_bind awake_ev (ev_some _))))))))))
    simp [vld, rgs_canon, canonL_len, h]
  · have e1 : partition_Canonical.f l = some [] := by rw [partition_Canonical.f, if_pos (by omega)]
    have e2 : semigroupref03_Canonical.f l = some [] := by rw [semigroupref03_Canonical.f, if_pos (by omega)]
    refine ev_bind0 e1 (ev_bind0 e2 (ev_bind (same_ev _ _ (by simp)) (ev_pos (by simp) (ev_bind (valid_ev l) (ev_bind (refvalid_ev l) (ev_pos (by simp) (ev_bind (valid_ev _) (ev_pos ?_ (ev_bind awake_ev (ev_some _))))))))))
    simp [vld, rgs]

end Go.Proofs.Ytjpghckijecdcaa.Pure
