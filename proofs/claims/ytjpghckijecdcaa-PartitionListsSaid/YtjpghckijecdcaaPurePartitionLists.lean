/- partition.Count and partition.Classes give what the reference gives, for any valid list, and nothing for any other; no condition. -/
import Derived.Test.YtjpghckijecdcaaPPartitionListsx2
namespace Go.Proofs.Ytjpghckijecdcaa.Pure
open Go.RowKit Go.Proofs.Ytjpghckijecdcaa.PPartitionLists Go.Proofs.YtjpghckijecdcaaW.PrintWords Go.Proofs.YtjpghckijecdcaaW.PrintLast Go.Proofs.YtjpghckijecdcaaH

theorem same_l0 (a b : List Int) (hab : a.length = b.length) (hn : a.length ≤ 140737488355328) : ∀ (d i : Nat), a.length - i = d → i ≤ a.length → a.take i = b.take i →
    Ev (fun k => semigroupref03_Same.l0 k a b (a.length : Int) (i : Int)) (decide (a = b)) := by
  intro d
  induction d with
  | zero =>
    intro i hd hi ht
    refine Ev.step (fun _ => rfl) (ev_neg (by omega) (ev_eq (ev_some true) ?_))
    have h1 : a.take i = a := List.take_of_length_le (by omega)
    have h2 : b.take i = b := List.take_of_length_le (by omega)
    rw [h1, h2] at ht
    simp [ht]
  | succ d ih =>
    intro i hd hi ht
    have hlt : i < a.length := by omega
    refine Ev.step (fun _ => rfl) (ev_pos (by omega) (ev_pos (by omega) (ev_pos (by omega) (ev_pos (by omega) ?_))))
    rw [rd_at a i hlt, rd_at b i (by omega)]
    by_cases h : a[i] = b[i]
    · refine ev_pos h ?_
      rw [wrap_succ hlt hn]
      exact ih (i + 1) (by omega) (by omega) (by rw [List.take_succ_eq_append_getElem hlt, List.take_succ_eq_append_getElem (by omega), ht, h])
    · refine ev_neg h (ev_eq (ev_some false) ?_)
      symm
      rw [decide_eq_false_iff_not]
      rintro rfl
      exact h rfl
theorem same_ev (a b : List Int) (hn : a.length ≤ 140737488355328) : Ev (fun k => semigroupref03_Same.f k a b) (decide (a = b)) := by
  by_cases h : a.length = b.length
  · exact ev_pos (by omega) (same_l0 a b h hn _ 0 rfl (by omega) (by simp))
  · refine ev_neg (by omega) (ev_eq (ev_some false) ?_)
    symm
    rw [decide_eq_false_iff_not]
    rintro rfl
    exact h rfl

theorem valid_l0 (l : List Int) (hn : l.length ≤ 4096) : ∀ (d i n : Nat), l.length - i = d → i ≤ l.length → n ≤ i → Ev (fun k => partition_Valid.l0 k (n : Int) l (l.length : Int) (i : Int)) (rgs n (l.drop i)) := by
  intro d
  induction d with
  | zero =>
    intro i n hd hi hni
    refine Ev.step (fun _ => by simp only [partition_Valid.l0]; rfl) (ev_neg (by omega) (ev_eq (ev_some true) ?_))
    rw [List.drop_of_length_le (by omega)]
    rfl
  | succ d ih =>
    intro i n hd hi hni
    have hlt : i < l.length := by omega
    rw [List.drop_eq_getElem_cons hlt]
    refine Ev.step (fun _ => by simp only [partition_Valid.l0]; rfl) (ev_pos (by omega) (ev_pos (by omega) (ev_pos (by omega) ?_)))
    rw [rd_at l i hlt]
    by_cases h1 : l[i] < 0
    · refine ev_pos h1 (Ev.step (fun _ => by simp only [partition_Valid.j1]; rfl) (ev_pos (Eq.refl true) (ev_eq (ev_some false) ?_)))
      rw [rgs, if_pos (by omega)]
    · refine ev_neg h1 (Ev.step (fun _ => by simp only [partition_Valid.j1]; rfl) ?_)
      by_cases h2 : l[i] > (n : Int)
      · refine ev_pos (by simpa using h2) (ev_eq (ev_some false) ?_)
        rw [rgs, if_pos (by omega)]
      · refine ev_neg (by simpa using h2) ?_
        rw [rgs, if_neg (by omega), wrap_succ hlt (by omega)]
        by_cases h3 : l[i] = (n : Int)
        · refine ev_pos h3 ?_
          rw [wrap_succ (i := n) (n := 5000) (by omega) (by omega), if_pos h3]
          exact ih (i + 1) (n + 1) (by omega) (by omega) (by omega)
        · refine ev_neg h3 ?_
          rw [if_neg h3]
          exact ih (i + 1) n (by omega) (by omega) (by omega)
def vld (l : List Int) : Bool := decide (l.length ≤ 4096) && rgs 0 l
theorem valid_ev (l : List Int) : Ev (fun k => partition_Valid.f k l) (vld l) := by
  by_cases h : l.length ≤ 4096
  · exact ev_neg (by omega) (ev_eq (valid_l0 l h _ 0 0 rfl (by omega) (by omega)) (by simp [vld, h]))
  · exact ev_pos (by omega) (ev_eq (ev_some false) (by simp [vld, h]))

theorem refvalid_ev (l : List Int) : Ev (fun k => semigroupref03_Valid.f k l) (vld l) := by
  by_cases h : l.length ≤ 4096
  · refine ev_pos (by omega) (ev_bind0 (a := (canonL l).2) (by rw [semigroupref03_Canonical.f, if_neg (by omega)]) (ev_bind (same_ev _ _ (by omega)) (ev_eq (ev_some _) ?_)))
    have hc := canon_id l
    have e : (decide (l = (canonL l).2)) = rgs 0 l := by
      rw [Bool.eq_iff_iff, ← hc, decide_eq_true_iff]
      exact eq_comm
    rw [e]
    simp [vld, h]
  · exact ev_neg (by omega) (ev_eq (ev_some false) (by simp [vld, h]))

theorem awake_ev : Ev (fun k => semigrouplaw03_awake.f k) true := by
  refine ev_bind0 (a := [0, 1, 0]) (by decide) (ev_bind (same_ev _ _ (by simp)) (ev_eq (ev_some _) (by simp)))

theorem rdL_at (l : List (List Int)) (i : Nat) (h : i < l.length) : rd_L1 l (i : Int) = l[i] := by simp [rd_L1, List.getD, h]
theorem samerows_l0 (a b : List (List Int)) (hab : a.length = b.length) (hn : a.length ≤ 140737488355328) (hl : ∀ x ∈ a, x.length ≤ 140737488355328) : ∀ (d i : Nat), a.length - i = d → i ≤ a.length → a.take i = b.take i →
    Ev (fun k => semigroupref03_SameRows.l0 k a b (a.length : Int) (i : Int)) (decide (a = b)) := by
  intro d
  induction d with
  | zero =>
    intro i hd hi ht
    refine Ev.step (fun _ => rfl) (ev_neg (by omega) (ev_eq (ev_some true) ?_))
    have h1 : a.take i = a := List.take_of_length_le (by omega)
    have h2 : b.take i = b := List.take_of_length_le (by omega)
    rw [h1, h2] at ht
    simp [ht]
  | succ d ih =>
    intro i hd hi ht
    have hlt : i < a.length := by omega
    refine Ev.step (fun _ => rfl) (ev_pos (by omega) (ev_pos (by omega) (ev_pos (by omega) (ev_pos (by omega) ?_))))
    rw [rdL_at a i hlt, rdL_at b i (by omega)]
    refine ev_bind (same_ev _ _ (hl _ (List.getElem_mem hlt))) ?_
    by_cases h : a[i] = b[i]
    · refine ev_pos (by simpa using h) ?_
      rw [wrap_succ hlt hn]
      exact ih (i + 1) (by omega) (by omega) (by rw [List.take_succ_eq_append_getElem hlt, List.take_succ_eq_append_getElem (by omega), ht, h])
    · refine ev_neg (by simpa using h) (ev_eq (ev_some false) ?_)
      symm
      rw [decide_eq_false_iff_not]
      rintro rfl
      exact h rfl
theorem samerows_ev (a b : List (List Int)) (hn : a.length ≤ 140737488355328) (hl : ∀ x ∈ a, x.length ≤ 140737488355328) : Ev (fun k => semigroupref03_SameRows.f k a b) (decide (a = b)) := by
  by_cases h : a.length = b.length
  · exact ev_pos (by omega) (samerows_l0 a b h hn hl _ 0 rfl (by omega) (by simp))
  · refine ev_neg (by omega) (ev_eq (ev_some false) ?_)
    symm
    rw [decide_eq_false_iff_not]
    rintro rfl
    exact h rfl

theorem mx_l (a b : Int) : a ≤ mx a b := by unfold mx; split <;> omega
theorem mx_r (a b : Int) : b ≤ mx a b := by unfold mx; split <;> omega
theorem mx_le {a b c : Int} (h : a ≤ c) (h' : b ≤ c) : mx a b ≤ c := by unfold mx; split <;> omega
def cntF : Int → List Int → Int
  | n, [] => n
  | n, x :: l => cntF (mx n (x + 1)) l
theorem cntF_ge : ∀ (l : List Int) (n : Int), n ≤ cntF n l
  | [], _ => Int.le_refl _
  | x :: l, n => by
    have := cntF_ge l (mx n (x + 1))
    have := mx_l n (x + 1)
    unfold cntF
    omega
theorem cntF_mem : ∀ (l : List Int) (n : Int), ∀ x ∈ l, x < cntF n l
  | [], _, x, h => by simp at h
  | y :: l, n, x, h => by
    unfold cntF
    rcases List.mem_cons.1 h with rfl | h
    · have := cntF_ge l (mx n (x + 1))
      have := mx_r n (x + 1)
      omega
    · exact cntF_mem l _ x h
theorem cntF_le : ∀ (l : List Int) (n B : Int), n ≤ B → (∀ x ∈ l, x + 1 ≤ B) → cntF n l ≤ B
  | [], _, _, h, _ => h
  | y :: l, n, B, h, h2 => by
    unfold cntF
    exact cntF_le l _ B (mx_le h (h2 y (by simp))) (fun x hx => h2 x (by simp [hx]))
def cnt (l : List Int) : Int := cntF 0 l
theorem rgs_mem : ∀ (l : List Int) (n : Nat), rgs n l = true → ∀ x ∈ l, 0 ≤ x ∧ x < n + l.length
  | [], _, _, x, h => by simp at h
  | y :: l, n, hr, x, h => by
    unfold rgs at hr
    split at hr
    · cases hr
    · rename_i hy
      rcases List.mem_cons.1 h with rfl | h
      · simp only [List.length_cons]; omega
      · have := rgs_mem l _ hr x h
        simp only [List.length_cons]
        split at this <;> omega
theorem vld_mem {l : List Int} (h : vld l = true) : l.length ≤ 4096 ∧ ∀ x ∈ l, 0 ≤ x ∧ x < 4096 := by
  unfold vld at h
  simp only [Bool.and_eq_true, decide_eq_true_eq] at h
  refine ⟨h.1, fun x hx => ?_⟩
  have := rgs_mem l 0 h.2 x hx
  omega
theorem cnt_bounds {l : List Int} (h : vld l = true) : 0 ≤ cnt l ∧ cnt l ≤ 4096 ∧ ∀ x ∈ l, x < cnt l :=
  ⟨cntF_ge l 0, cntF_le l 0 4096 (by omega) (fun x hx => by have := (vld_mem h).2 x hx; omega), cntF_mem l 0⟩

theorem count_l0 (l : List Int) (hn : l.length ≤ 4096) (hm : ∀ x ∈ l, 0 ≤ x ∧ x < 4096) : ∀ (d i : Nat) (n : Int), l.length - i = d → i ≤ l.length → Ev (fun k => partition_Count.l0 k n l (l.length : Int) (i : Int)) (cntF n (l.drop i)) := by
  intro d
  induction d with
  | zero =>
    intro i n hd hi
    refine Ev.step (fun _ => rfl) (ev_neg (by omega) (ev_eq (ev_some n) ?_))
    rw [List.drop_of_length_le (by omega)]
    rfl
  | succ d ih =>
    intro i n hd hi
    have hlt : i < l.length := by omega
    rw [List.drop_eq_getElem_cons hlt]
    have hx := hm l[i] (List.getElem_mem hlt)
    refine Ev.step (fun _ => rfl) (ev_pos (by omega) (ev_pos (by omega) (ev_pos (by omega) ?_)))
    rw [rd_at l i hlt, wrap_succ hlt (by omega), wrap_in (by omega) (by omega)]
    exact ih (i + 1) _ (by omega) (by omega)
theorem count_ev (l : List Int) : Ev (fun k => partition_Count.f k l) (if vld l = true then cnt l else 0) := by
  refine ev_bind (valid_ev l) ?_
  by_cases h : vld l = true
  · have hv := vld_mem h
    simp only [h, if_true]
    exact count_l0 l hv.1 hv.2 _ 0 0 rfl (by omega)
  · simp only [h, Bool.false_eq_true, if_false]
    exact ev_some 0

def clsF : List (List Int) → List Int → Nat → List (List Int)
  | out, [], _ => out
  | out, x :: l, i => clsF (out.set x.toNat (rd_L1 out x ++ [(i : Int)])) l (i + 1)
def cls (l : List Int) : List (List Int) := clsF (List.replicate (cnt l).toNat []) l 0
theorem clsF_length : ∀ (l : List Int) (out : List (List Int)) (i : Nat), (clsF out l i).length = out.length
  | [], _, _ => rfl
  | x :: l, out, i => by rw [clsF, clsF_length l, List.length_set]
theorem set_rows {out : List (List Int)} {i : Nat} (hl : ∀ x ∈ out, x.length ≤ i) (x : Int) (y : Int) : ∀ z ∈ out.set x.toNat (rd_L1 out x ++ [y]), z.length ≤ i + 1 := by
  intro z hz
  rcases List.mem_or_eq_of_mem_set hz with h | rfl
  · have := hl z h; omega
  · rw [List.length_append]
    have : (rd_L1 out x).length ≤ i := by
      unfold rd_L1
      rw [List.getD_eq_getElem?_getD]
      cases h : out[x.toNat]? with
      | none => simp
      | some r => exact hl r (List.mem_of_getElem? h)
    simp; omega
theorem clsF_rows : ∀ (l : List Int) (out : List (List Int)) (i : Nat), (∀ x ∈ out, x.length ≤ i) → ∀ z ∈ clsF out l i, z.length ≤ i + l.length
  | [], _, _, h, z, hz => h z hz
  | x :: l, out, i, h, z, hz => by
    have := clsF_rows l _ (i + 1) (set_rows h x _) z hz
    simp only [List.length_cons]
    omega
theorem rdL_len {out : List (List Int)} {i : Nat} (hl : ∀ x ∈ out, x.length ≤ i) (x : Int) : (rd_L1 out x).length ≤ i := by
  unfold rd_L1
  rw [List.getD_eq_getElem?_getD]
  cases h : out[x.toNat]? with
  | none => simp
  | some r => exact hl r (List.mem_of_getElem? h)

theorem classes_l0 (l : List Int) (hn : l.length ≤ 4096) (c : Nat) (hm : ∀ x ∈ l, 0 ≤ x ∧ x < c) : ∀ (d i : Nat) (out : List (List Int)), l.length - i = d → i ≤ l.length → out.length = c → (∀ x ∈ out, x.length ≤ i) →
    Ev (fun k => partition_Classes.l0 k out l (l.length : Int) (i : Int)) (clsF out (l.drop i) i) := by
  intro d
  induction d with
  | zero =>
    intro i out hd hi hc hr
    refine Ev.step (fun _ => rfl) (ev_neg (by omega) (ev_eq (ev_some out) ?_))
    rw [List.drop_of_length_le (by omega)]
    rfl
  | succ d ih =>
    intro i out hd hi hc hr
    have hlt : i < l.length := by omega
    rw [List.drop_eq_getElem_cons hlt]
    have hx := hm l[i] (List.getElem_mem hlt)
    have hw := rdL_len hr l[i]
    refine Ev.step (fun _ => rfl) (ev_pos (by omega) (ev_pos (by omega) (ev_pos (by omega) ?_)))
    rw [rd_at l i hlt, wrap_succ hlt (by omega)]
    refine ev_pos (by omega) (ev_pos (by omega) (ev_pos (by omega) ?_))
    exact ih (i + 1) _ (by omega) (by omega) (by rw [List.length_set, hc]) (set_rows hr _ _)
theorem classes_ev (l : List Int) : Ev (fun k => partition_Classes.f k l) (if vld l = true then cls l else []) := by
  refine ev_bind (valid_ev l) ?_
  by_cases h : vld l = true
  · have hv := vld_mem h
    have hc := cnt_bounds h
    have he := count_ev l
    simp only [h, if_true] at he ⊢
    refine ev_bind he (ev_pos (by omega) (ev_pos (by omega) ?_))
    exact classes_l0 l hv.1 (cnt l).toNat (fun x hx => ⟨(hv.2 x hx).1, by have := hc.2.2 x hx; omega⟩) _ 0 _ rfl (by omega) (by simp) (fun x hx => by rw [List.eq_of_mem_replicate hx]; simp)
  · simp only [h, Bool.false_eq_true, if_false]
    exact ev_some []

theorem refcount_l0 (l : List Int) (hn : l.length ≤ 4096) (hm : ∀ x ∈ l, 0 ≤ x ∧ x < 4096) : ∀ (d i : Nat) (n : Int), l.length - i = d → i ≤ l.length → Ev (fun k => semigroupref03_Count.l0 k n l (l.length : Int) (i : Int)) (cntF n (l.drop i)) := by
  intro d
  induction d with
  | zero =>
    intro i n hd hi
    refine Ev.step (fun _ => rfl) (ev_neg (by omega) (ev_eq (ev_some n) ?_))
    rw [List.drop_of_length_le (by omega)]
    rfl
  | succ d ih =>
    intro i n hd hi
    have hlt : i < l.length := by omega
    rw [List.drop_eq_getElem_cons hlt]
    have hx := hm l[i] (List.getElem_mem hlt)
    refine Ev.step (fun _ => rfl) (ev_pos (by omega) (ev_pos (by omega) (ev_pos (by omega) ?_)))
    rw [rd_at l i hlt, wrap_succ hlt (by omega), wrap_in (by omega) (by omega)]
    exact ih (i + 1) _ (by omega) (by omega)
theorem refcount_ev (l : List Int) (h : vld l = true) : Ev (fun k => semigroupref03_Count.f k l) (cnt l) := by
  have hv := vld_mem h
  exact refcount_l0 l hv.1 hv.2 _ 0 0 rfl (by omega)

theorem refclasses_l0 (l : List Int) (hn : l.length ≤ 4096) (c : Nat) (hm : ∀ x ∈ l, 0 ≤ x ∧ x < c) : ∀ (d i : Nat) (out : List (List Int)), l.length - i = d → i ≤ l.length → out.length = c → (∀ x ∈ out, x.length ≤ i) →
    Ev (fun k => semigroupref03_Classes.l0 k out l (l.length : Int) (i : Int)) (clsF out (l.drop i) i) := by
  intro d
  induction d with
  | zero =>
    intro i out hd hi hc hr
    refine Ev.step (fun _ => rfl) (ev_neg (by omega) (ev_eq (ev_some out) ?_))
    rw [List.drop_of_length_le (by omega)]
    rfl
  | succ d ih =>
    intro i out hd hi hc hr
    have hlt : i < l.length := by omega
    rw [List.drop_eq_getElem_cons hlt]
    have hx := hm l[i] (List.getElem_mem hlt)
    have hw := rdL_len hr l[i]
    refine Ev.step (fun _ => rfl) (ev_pos (by omega) (ev_pos (by omega) (ev_pos (by omega) ?_)))
    rw [rd_at l i hlt, wrap_succ hlt (by omega)]
    refine ev_pos (by omega) (ev_pos (by omega) (ev_pos (by omega) ?_))
    exact ih (i + 1) _ (by omega) (by omega) (by rw [List.length_set, hc]) (set_rows hr _ _)
theorem refclasses_ev (l : List Int) (h : vld l = true) : Ev (fun k => semigroupref03_Classes.f k l) (cls l) := by
  have hv := vld_mem h
  have hc := cnt_bounds h
  refine ev_bind (refcount_ev l h) (ev_pos (by omega) (ev_pos (by omega) ?_))
  exact refclasses_l0 l hv.1 (cnt l).toNat (fun x hx => ⟨(hv.2 x hx).1, by have := hc.2.2 x hx; omega⟩) _ 0 _ rfl (by omega) (by simp) (fun x hx => by rw [List.eq_of_mem_replicate hx]; simp)

theorem PartitionLists : semigrouplaw03_PartitionLists.Pure := by
  intro l _ _ _
  refine Ev.rounds (ev_bind (count_ev l) (ev_bind (classes_ev l) (ev_bind (refvalid_ev l) ?_)))
  by_cases h : vld l = true
  · simp only [h, if_true]
    refine ev_bind (refcount_ev l h) (ev_pos rfl (ev_bind (refclasses_ev l h) (ev_bind (samerows_ev _ _ ?_ ?_) (ev_pos (by simp) (ev_bind awake_ev (ev_some _))))))
    · have := (cnt_bounds h).2.1
      rw [cls, clsF_length, List.length_replicate]
      omega
    · intro x hx
      have := clsF_rows l _ 0 (fun x hx => by rw [List.eq_of_mem_replicate hx]; simp) x hx
      have := (vld_mem h).1
      omega
  · simp only [h, Bool.false_eq_true, if_false]
    refine ev_pos (by simp) (ev_pos (by simp) (ev_bind awake_ev (ev_some _)))

end Go.Proofs.Ytjpghckijecdcaa.Pure
