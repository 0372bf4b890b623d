/- partition.Saturates says which sets are unions of classes of any valid partition, and false elsewhere; no condition. -/
import Derived.Test.YtjpghckijecdcaaQPartitionSaturates
namespace Go.Proofs.Ytjpghckijecdcaa.Pure
open Go.RowKit Go.Proofs.Ytjpghckijecdcaa.PPartitionSaturates Go.Proofs.YtjpghckijecdcaaW.PrintWords Go.Proofs.YtjpghckijecdcaaW.PrintLast Go.Proofs.YtjpghckijecdcaaH
set_option linter.unusedVariables false
set_option linter.unusedSimpArgs false

theorem same_l0 (a b : List Int) (hab : a.length = b.length) (hn : a.length ≤ 140737488355328) : ∀ (d i : Nat), a.length - i = d → i ≤ a.length → a.take i = b.take i →
    Ev (fun k => semigroupref03_Same.l0 k a b (a.length : Int) (i : Int)) (decide (a = b)) := by
  intro d
  induction d with
  | zero =>
    intro i hd hi ht
    refine Ev.step (fun _ => rfl) (ev_neg (by omega) (ev_eq (ev_some true) ?_))
    have h1 : a.take i = a := List.take_of_length_le (by omega)
    have h2 : b.take i = b := List.take_of_length_le (by omega)
    rw [h1, h2] at ht
    simp [ht]
  | succ d ih =>
    intro i hd hi ht
    have hlt : i < a.length := by omega
    refine Ev.step (fun _ => rfl) (ev_pos (by omega) (ev_pos (by omega) (ev_pos (by omega) (ev_pos (by omega) ?_))))
    rw [rd_at a i hlt, rd_at b i (by omega)]
    by_cases h : a[i] = b[i]
    · refine ev_pos h ?_
      rw [wrap_succ hlt hn]
      exact ih (i + 1) (by omega) (by omega) (by rw [List.take_succ_eq_append_getElem hlt, List.take_succ_eq_append_getElem (by omega), ht, h])
    · refine ev_neg h (ev_eq (ev_some false) ?_)
      symm
      rw [decide_eq_false_iff_not]
      rintro rfl
      exact h rfl
theorem same_ev (a b : List Int) (hn : a.length ≤ 140737488355328) : Ev (fun k => semigroupref03_Same.f k a b) (decide (a = b)) := by
  by_cases h : a.length = b.length
  · exact ev_pos (by omega) (same_l0 a b h hn _ 0 rfl (by omega) (by simp))
  · refine ev_neg (by omega) (ev_eq (ev_some false) ?_)
    symm
    rw [decide_eq_false_iff_not]
    rintro rfl
    exact h rfl

theorem valid_l0 (l : List Int) (hn : l.length ≤ 4096) : ∀ (d i n : Nat), l.length - i = d → i ≤ l.length → n ≤ i → Ev (fun k => partition_Valid.l0 k (n : Int) l (l.length : Int) (i : Int)) (rgs n (l.drop i)) := by
  intro d
  induction d with
  | zero =>
    intro i n hd hi hni
    refine Ev.step (fun _ => by simp only [partition_Valid.l0]; rfl) (ev_neg (by omega) (ev_eq (ev_some true) ?_))
    rw [List.drop_of_length_le (by omega)]
    rfl
  | succ d ih =>
    intro i n hd hi hni
    have hlt : i < l.length := by omega
    rw [List.drop_eq_getElem_cons hlt]
    refine Ev.step (fun _ => by simp only [partition_Valid.l0]; rfl) (ev_pos (by omega) (ev_pos (by omega) (ev_pos (by omega) ?_)))
    rw [rd_at l i hlt]
    by_cases h1 : l[i] < 0
    · refine ev_pos h1 (Ev.step (fun _ => by simp only [partition_Valid.j1]; rfl) (ev_pos (Eq.refl true) (ev_eq (ev_some false) ?_)))
      rw [rgs, if_pos (by omega)]
    · refine ev_neg h1 (Ev.step (fun _ => by simp only [partition_Valid.j1]; rfl) ?_)
      by_cases h2 : l[i] > (n : Int)
      · refine ev_pos (by simpa using h2) (ev_eq (ev_some false) ?_)
        rw [rgs, if_pos (by omega)]
      · refine ev_neg (by simpa using h2) ?_
        rw [rgs, if_neg (by omega), wrap_succ hlt (by omega)]
        by_cases h3 : l[i] = (n : Int)
        · refine ev_pos h3 ?_
          rw [wrap_succ (i := n) (n := 5000) (by omega) (by omega), if_pos h3]
          exact ih (i + 1) (n + 1) (by omega) (by omega) (by omega)
        · refine ev_neg h3 ?_
          rw [if_neg h3]
          exact ih (i + 1) n (by omega) (by omega) (by omega)
def vld (l : List Int) : Bool := decide (l.length ≤ 4096) && rgs 0 l
theorem valid_ev (l : List Int) : Ev (fun k => partition_Valid.f k l) (vld l) := by
  by_cases h : l.length ≤ 4096
  · exact ev_neg (by omega) (ev_eq (valid_l0 l h _ 0 0 rfl (by omega) (by omega)) (by simp [vld, h]))
  · exact ev_pos (by omega) (ev_eq (ev_some false) (by simp [vld, h]))

theorem refvalid_ev (l : List Int) : Ev (fun k => semigroupref03_Valid.f k l) (vld l) := by
  by_cases h : l.length ≤ 4096
  · refine ev_pos (by omega) (ev_bind0 (a := (canonL l).2) (by rw [semigroupref03_Canonical.f, if_neg (by omega)]) (ev_bind (same_ev _ _ (by omega)) (ev_eq (ev_some _) ?_)))
    have hc := canon_id l
    have e : (decide (l = (canonL l).2)) = rgs 0 l := by
      rw [Bool.eq_iff_iff, ← hc, decide_eq_true_iff]
      exact eq_comm
    rw [e]
    simp [vld, h]
  · exact ev_neg (by omega) (ev_eq (ev_some false) (by simp [vld, h]))

theorem awake_ev : Ev (fun k => semigrouplaw03_awake.f k) true := by
  refine ev_bind0 (a := [0, 1, 0]) (by decide) (ev_bind (same_ev _ _ (by simp)) (ev_eq (ev_some _) (by simp)))

theorem mx_l (a b : Int) : a ≤ mx a b := by unfold mx; split <;> omega
theorem mx_r (a b : Int) : b ≤ mx a b := by unfold mx; split <;> omega
theorem mx_le {a b c : Int} (h : a ≤ c) (h' : b ≤ c) : mx a b ≤ c := by unfold mx; split <;> omega
def cntF : Int → List Int → Int
  | n, [] => n
  | n, x :: l => cntF (mx n (x + 1)) l
theorem cntF_ge : ∀ (l : List Int) (n : Int), n ≤ cntF n l
  | [], _ => Int.le_refl _
  | x :: l, n => by
    have := cntF_ge l (mx n (x + 1))
    have := mx_l n (x + 1)
    unfold cntF
    omega
theorem cntF_mem : ∀ (l : List Int) (n : Int), ∀ x ∈ l, x < cntF n l
  | [], _, x, h => by simp at h
  | y :: l, n, x, h => by
    unfold cntF
    rcases List.mem_cons.1 h with rfl | h
    · have := cntF_ge l (mx n (x + 1))
      have := mx_r n (x + 1)
      omega
    · exact cntF_mem l _ x h
theorem cntF_le : ∀ (l : List Int) (n B : Int), n ≤ B → (∀ x ∈ l, x + 1 ≤ B) → cntF n l ≤ B
  | [], _, _, h, _ => h
  | y :: l, n, B, h, h2 => by
    unfold cntF
    exact cntF_le l _ B (mx_le h (h2 y (by simp))) (fun x hx => h2 x (by simp [hx]))
def cnt (l : List Int) : Int := cntF 0 l
theorem rgs_mem : ∀ (l : List Int) (n : Nat), rgs n l = true → ∀ x ∈ l, 0 ≤ x ∧ x < n + l.length
  | [], _, _, x, h => by simp at h
  | y :: l, n, hr, x, h => by
    unfold rgs at hr
    split at hr
    · cases hr
    · rename_i hy
      rcases List.mem_cons.1 h with rfl | h
      · simp only [List.length_cons]; omega
      · have := rgs_mem l _ hr x h
        simp only [List.length_cons]
        split at this <;> omega
theorem vld_mem {l : List Int} (h : vld l = true) : l.length ≤ 4096 ∧ ∀ x ∈ l, 0 ≤ x ∧ x < 4096 := by
  unfold vld at h
  simp only [Bool.and_eq_true, decide_eq_true_eq] at h
  refine ⟨h.1, fun x hx => ?_⟩
  have := rgs_mem l 0 h.2 x hx
  omega
theorem cnt_bounds {l : List Int} (h : vld l = true) : 0 ≤ cnt l ∧ cnt l ≤ 4096 ∧ ∀ x ∈ l, x < cnt l :=
  ⟨cntF_ge l 0, cntF_le l 0 4096 (by omega) (fun x hx => by have := (vld_mem h).2 x hx; omega), cntF_mem l 0⟩

theorem refcount_l0 (l : List Int) (hn : l.length ≤ 4096) (hm : ∀ x ∈ l, 0 ≤ x ∧ x < 4096) : ∀ (d i : Nat) (n : Int), l.length - i = d → i ≤ l.length → Ev (fun k => semigroupref03_Count.l0 k n l (l.length : Int) (i : Int)) (cntF n (l.drop i)) := by
  intro d
  induction d with
  | zero =>
    intro i n hd hi
    refine Ev.step (fun _ => rfl) (ev_neg (by omega) (ev_eq (ev_some n) ?_))
    rw [List.drop_of_length_le (by omega)]
    rfl
  | succ d ih =>
    intro i n hd hi
    have hlt : i < l.length := by omega
    rw [List.drop_eq_getElem_cons hlt]
    have hx := hm l[i] (List.getElem_mem hlt)
    refine Ev.step (fun _ => rfl) (ev_pos (by omega) (ev_pos (by omega) (ev_pos (by omega) ?_)))
    rw [rd_at l i hlt, wrap_succ hlt (by omega), wrap_in (by omega) (by omega)]
    exact ih (i + 1) _ (by omega) (by omega)
theorem refcount_ev (l : List Int) (h : vld l = true) : Ev (fun k => semigroupref03_Count.f k l) (cnt l) := by
  have hv := vld_mem h
  exact refcount_l0 l hv.1 hv.2 _ 0 0 rfl (by omega)

def clsF : List (List Int) → List Int → Nat → List (List Int)
  | out, [], _ => out
  | out, x :: l, i => clsF (out.set x.toNat (rd_L1 out x ++ [(i : Int)])) l (i + 1)
def cls (l : List Int) : List (List Int) := clsF (List.replicate (cnt l).toNat []) l 0
theorem clsF_length : ∀ (l : List Int) (out : List (List Int)) (i : Nat), (clsF out l i).length = out.length
  | [], _, _ => rfl
  | x :: l, out, i => by rw [clsF, clsF_length l, List.length_set]
theorem set_rows {out : List (List Int)} {i : Nat} (hl : ∀ x ∈ out, x.length ≤ i) (x : Int) (y : Int) : ∀ z ∈ out.set x.toNat (rd_L1 out x ++ [y]), z.length ≤ i + 1 := by
  intro z hz
  rcases List.mem_or_eq_of_mem_set hz with h | rfl
  · have := hl z h; omega
  · rw [List.length_append]
    have : (rd_L1 out x).length ≤ i := by
      unfold rd_L1
      rw [List.getD_eq_getElem?_getD]
      cases h : out[x.toNat]? with
      | none => simp
      | some r => exact hl r (List.mem_of_getElem? h)
    simp; omega
theorem clsF_rows : ∀ (l : List Int) (out : List (List Int)) (i : Nat), (∀ x ∈ out, x.length ≤ i) → ∀ z ∈ clsF out l i, z.length ≤ i + l.length
  | [], _, _, h, z, hz => h z hz
  | x :: l, out, i, h, z, hz => by
    have := clsF_rows l _ (i + 1) (set_rows h x _) z hz
    simp only [List.length_cons]
    omega
theorem rdL_len {out : List (List Int)} {i : Nat} (hl : ∀ x ∈ out, x.length ≤ i) (x : Int) : (rd_L1 out x).length ≤ i := by
  unfold rd_L1
  rw [List.getD_eq_getElem?_getD]
  cases h : out[x.toNat]? with
  | none => simp
  | some r => exact hl r (List.mem_of_getElem? h)

theorem refclasses_l0 (l : List Int) (hn : l.length ≤ 4096) (c : Nat) (hm : ∀ x ∈ l, 0 ≤ x ∧ x < c) : ∀ (d i : Nat) (out : List (List Int)), l.length - i = d → i ≤ l.length → out.length = c → (∀ x ∈ out, x.length ≤ i) →
    Ev (fun k => semigroupref03_Classes.l0 k out l (l.length : Int) (i : Int)) (clsF out (l.drop i) i) := by
  intro d
  induction d with
  | zero =>
    intro i out hd hi hc hr
    refine Ev.step (fun _ => rfl) (ev_neg (by omega) (ev_eq (ev_some out) ?_))
    rw [List.drop_of_length_le (by omega)]
    rfl
  | succ d ih =>
    intro i out hd hi hc hr
    have hlt : i < l.length := by omega
    rw [List.drop_eq_getElem_cons hlt]
    have hx := hm l[i] (List.getElem_mem hlt)
    have hw := rdL_len hr l[i]
    refine Ev.step (fun _ => rfl) (ev_pos (by omega) (ev_pos (by omega) (ev_pos (by omega) ?_)))
    rw [rd_at l i hlt, wrap_succ hlt (by omega)]
    refine ev_pos (by omega) (ev_pos (by omega) (ev_pos (by omega) ?_))
    exact ih (i + 1) _ (by omega) (by omega) (by rw [List.length_set, hc]) (set_rows hr _ _)
theorem refclasses_ev (l : List Int) (h : vld l = true) : Ev (fun k => semigroupref03_Classes.f k l) (cls l) := by
  have hv := vld_mem h
  have hc := cnt_bounds h
  refine ev_bind (refcount_ev l h) (ev_pos (by omega) (ev_pos (by omega) ?_))
  exact refclasses_l0 l hv.1 (cnt l).toNat (fun x hx => ⟨(hv.2 x hx).1, by have := hc.2.2 x hx; omega⟩) _ 0 _ rfl (by omega) (by simp) (fun x hx => by rw [List.eq_of_mem_replicate hx]; simp)

/-- The places (counted from i on) at which v stands. -/
def idx (v : Int) : List Int → Nat → List Int
  | [], _ => []
  | x :: l, i => if x = v then (i : Int) :: idx v l (i + 1) else idx v l (i + 1)
theorem mem_idx (v : Int) : ∀ (l : List Int) (i : Nat) (y : Int), y ∈ idx v l i ↔ ∃ j : Nat, j < l.length ∧ y = ((i + j : Nat) : Int) ∧ rd l j = v
  | [], i, y => by simp [idx]
  | x :: l, i, y => by
    have ih := mem_idx v l (i + 1) y
    have hs : ∀ j : Nat, rd (x :: l) ((j + 1 : Nat) : Int) = rd l (j : Int) := fun j => by
      simp only [rd, Int.toNat_natCast, List.getD_cons_succ]
    have hz : rd (x :: l) ((0 : Nat) : Int) = x := rfl
    have key : (∃ j : Nat, j < (x :: l).length ∧ y = ((i + j : Nat) : Int) ∧ rd (x :: l) j = v) ↔ (y = (i : Int) ∧ x = v) ∨ ∃ j : Nat, j < l.length ∧ y = ((i + 1 + j : Nat) : Int) ∧ rd l j = v := by
      constructor
      · rintro ⟨j, hj, hy, hv⟩
        cases j with
        | zero => exact .inl ⟨by simpa using hy, hv⟩
        | succ j => exact .inr ⟨j, by simpa using hj, by rw [hy]; omega, by rw [← hs]; exact hv⟩
      · rintro (⟨hy, hv⟩ | ⟨j, hj, hy, hv⟩)
        · exact ⟨0, by simp, by simpa using hy, hv⟩
        · exact ⟨j + 1, by simpa using hj, by rw [hy]; omega, by rw [hs]; exact hv⟩
    rw [key, idx]
    split
    · rename_i h
      rw [List.mem_cons, ih]
      simp [h]
    · rename_i h
      rw [ih]
      simp [h]
theorem rdL_set (out : List (List Int)) (x v : Int) (hx : 0 ≤ x) (hv : 0 ≤ v) (hl : x < out.length) (r : List Int) : rd_L1 (out.set x.toNat r) v = if x = v then r else rd_L1 out v := by
  obtain ⟨a, rfl⟩ := Int.eq_ofNat_of_zero_le hx
  obtain ⟨b, rfl⟩ := Int.eq_ofNat_of_zero_le hv
  simp only [Int.toNat_natCast, rd_L1, List.getD_eq_getElem?_getD, List.getElem?_set]
  by_cases h : a = b
  · subst h
    have hl' : a < out.length := by omega
    simp [hl']
  · have h' : ¬ ((a : Int) = (b : Int)) := by omega
    rw [if_neg h, if_neg h']
theorem clsF_row : ∀ (l : List Int) (out : List (List Int)) (i : Nat) (v : Int), 0 ≤ v → (∀ x ∈ l, 0 ≤ x ∧ x < out.length) → rd_L1 (clsF out l i) v = rd_L1 out v ++ idx v l i
  | [], out, i, v, _, _ => by simp [clsF, idx]
  | x :: l, out, i, v, hv, hm => by
    have hx := hm x (by simp)
    rw [clsF, clsF_row l _ (i + 1) v hv (fun y hy => by rw [List.length_set]; exact hm y (by simp [hy])), rdL_set out x v hx.1 hv hx.2, idx]
    split
    · rename_i h
      subst h
      simp
    · rfl
theorem cls_row {l : List Int} (h : vld l = true) (v : Int) (hv : 0 ≤ v) : rd_L1 (cls l) v = idx v l 0 := by
  have hc := cnt_bounds h
  rw [cls, clsF_row l _ 0 v hv (fun x hx => ⟨((vld_mem h).2 x hx).1, by have := hc.2.2 x hx; simp; omega⟩)]
  have : rd_L1 (List.replicate (cnt l).toNat []) v = [] := by
    unfold rd_L1
    rw [List.getD_eq_getElem?_getD, List.getElem?_replicate]
    split <;> rfl
  rw [this, List.nil_append]
theorem cls_length {l : List Int} (h : vld l = true) : (cls l).length = (cnt l).toNat := by rw [cls, clsF_length, List.length_replicate]

theorem count_l0 (l : List Int) (hn : l.length ≤ 4096) (hm : ∀ x ∈ l, 0 ≤ x ∧ x < 4096) : ∀ (d i : Nat) (n : Int), l.length - i = d → i ≤ l.length → Ev (fun k => partition_Count.l0 k n l (l.length : Int) (i : Int)) (cntF n (l.drop i)) := by
  intro d
  induction d with
  | zero =>
    intro i n hd hi
    refine Ev.step (fun _ => rfl) (ev_neg (by omega) (ev_eq (ev_some n) ?_))
    rw [List.drop_of_length_le (by omega)]
    rfl
  | succ d ih =>
    intro i n hd hi
    have hlt : i < l.length := by omega
    rw [List.drop_eq_getElem_cons hlt]
    have hx := hm l[i] (List.getElem_mem hlt)
    refine Ev.step (fun _ => rfl) (ev_pos (by omega) (ev_pos (by omega) (ev_pos (by omega) ?_)))
    rw [rd_at l i hlt, wrap_succ hlt (by omega), wrap_in (by omega) (by omega)]
    exact ih (i + 1) _ (by omega) (by omega)
theorem count_ev (l : List Int) : Ev (fun k => partition_Count.f k l) (if vld l = true then cnt l else 0) := by
  refine ev_bind (valid_ev l) ?_
  by_cases h : vld l = true
  · have hv := vld_mem h
    simp only [h, if_true]
    exact count_l0 l hv.1 hv.2 _ 0 0 rfl (by omega)
  · simp only [h, Bool.false_eq_true, if_false]
    exact ev_some 0

theorem rd_mem (l : List Int) (i : Nat) (h : i < l.length) : rd l (i : Int) ∈ l := by rw [rd_at l i h]; exact List.getElem_mem h
theorem rd_set (l : List Int) (x y : Int) (v : Int) (hx : 0 ≤ x) (hy : 0 ≤ y) (hl : x < l.length) : rd (l.set x.toNat v) y = if x = y then v else rd l y := by
  obtain ⟨a, rfl⟩ := Int.eq_ofNat_of_zero_le hx
  obtain ⟨b, rfl⟩ := Int.eq_ofNat_of_zero_le hy
  simp only [Int.toNat_natCast, rd, List.getD_eq_getElem?_getD, List.getElem?_set]
  by_cases h : a = b
  · subst h
    have hl' : a < l.length := by omega
    simp [hl']
  · have h' : ¬ ((a : Int) = (b : Int)) := by omega
    rw [if_neg h, if_neg h']

/-- A set of points that is a union of classes. -/
def Sat (p : List Int) (s : List Bool) : Prop := ∀ i j : Nat, i < p.length → j < p.length → rd p i = rd p j → rdOf false s i = rdOf false s j
def bv (b : Bool) : Int := if b = true then 2 else 1
theorem bv_pos (b : Bool) : 0 < bv b := by cases b <;> decide
theorem bv_inj {a b : Bool} (h : bv a = bv b) : a = b := by cases a <;> cases b <;> first | rfl | (exact absurd h (by decide))
theorem saturates_l0 (p : List Int) (s : List Bool) (hn : p.length ≤ 4096) (hps : p.length = s.length) (c : Nat) (hp : ∀ x ∈ p, 0 ≤ x ∧ x < c) : ∀ (d i : Nat) (t : List Int), p.length - i = d → i ≤ p.length → t.length = c →
    (∀ x : Int, 0 ≤ x → x < c → rd t x = 0 → ∀ j : Nat, j < i → rd p j ≠ x) → (∀ x : Int, 0 ≤ x → x < c → rd t x ≠ 0 → ∃ j : Nat, j < i ∧ rd p j = x ∧ bv (rdOf false s j) = rd t x) → (∀ j : Nat, j < i → rd t (rd p j) = bv (rdOf false s j)) →
    ∃ r : Bool, Ev (fun k => partition_Saturates.l0 k s t p (p.length : Int) (i : Int)) r ∧ (r = true ↔ Sat p s) := by
  intro d
  induction d with
  | zero =>
    intro i t hd hi ht h1 h2 h3
    refine ⟨true, Ev.step (fun _ => by simp only [partition_Saturates.l0]; rfl) (ev_neg (by omega) (ev_some true)), fun _ => ?_, fun _ => rfl⟩
    intro a b ha hb e
    have ea := h3 a (by omega)
    have eb := h3 b (by omega)
    rw [e] at ea
    exact bv_inj (ea.symm.trans eb)
  | succ d ih =>
    intro i t hd hi ht h1 h2 h3
    have hlt : i < p.length := by omega
    have hx := hp _ (rd_mem p i hlt)
    suffices ∃ r : Bool, Ev (fun k => partition_Saturates.j2 k s t (rd p i) (bv (rdOf false s i)) p (p.length : Int) (i : Int)) r ∧ (r = true ↔ Sat p s) by
      obtain ⟨r, hr, he⟩ := this
      refine ⟨r, Ev.step (fun _ => by simp only [partition_Saturates.l0]; rfl) (ev_pos (by omega) (ev_pos (by omega) (ev_pos (by omega) (ev_pos (by omega) ?_)))), he⟩
      by_cases hs : rdOf false s i = true
      · refine ev_pos hs ?_
        simpa [bv, hs] using hr
      · refine ev_neg hs ?_
        simpa [bv, hs] using hr
    have hb := bv_pos (rdOf false s i)
    by_cases hz : rd t (rd p i) = 0
    · obtain ⟨r, hr, he⟩ := ih (i + 1) (t.set (rd p i).toNat (bv (rdOf false s i))) (by omega) (by omega) (by rw [List.length_set, ht])
        (fun x hx0 hxc hlt0 j hj => by
          rw [rd_set _ _ _ _ hx.1 hx0 (by omega)] at hlt0
          split at hlt0
          · omega
          · rcases Nat.lt_succ_iff_lt_or_eq.1 hj with hj | rfl
            · exact h1 x hx0 hxc hlt0 j hj
            · assumption)
        (fun x hx0 hxc hge => by
          rw [rd_set _ _ _ _ hx.1 hx0 (by omega)] at hge ⊢
          split
          · exact ⟨i, by omega, by assumption, rfl⟩
          · rename_i hne
            rw [if_neg hne] at hge
            obtain ⟨j, hj, e1, e2⟩ := h2 x hx0 hxc hge
            exact ⟨j, by omega, e1, e2⟩)
        (fun j hj => by
          rcases Nat.lt_succ_iff_lt_or_eq.1 hj with hj | rfl
          · have hxj := hp _ (rd_mem p j (by omega))
            rw [rd_set _ _ _ _ hx.1 hxj.1 (by omega), if_neg (fun e => h1 _ hx.1 hx.2 hz j hj e.symm)]
            exact h3 j hj
          · rw [rd_set _ _ _ _ hx.1 hx.1 (by omega), if_pos rfl])
      refine ⟨r, Ev.step (fun _ => by simp only [partition_Saturates.j2]; rfl) (ev_pos hx.1 (ev_pos (by omega) (ev_pos hz ?_))), he⟩
      refine ev_bind0 rfl (ev_pos (by rw [rd_set _ _ _ _ hx.1 hx.1 (by omega), if_pos rfl]) ?_)
      rw [wrap_succ hlt (by omega)]
      exact hr
    · by_cases hc : rd t (rd p i) = bv (rdOf false s i)
      · obtain ⟨r, hr, he⟩ := ih (i + 1) t (by omega) (by omega) ht
          (fun x hx0 hxc hlt0 j hj => by
            rcases Nat.lt_succ_iff_lt_or_eq.1 hj with hj | rfl
            · exact h1 x hx0 hxc hlt0 j hj
            · rintro rfl; exact hz hlt0)
          (fun x hx0 hxc hge => by obtain ⟨j, hj, e⟩ := h2 x hx0 hxc hge; exact ⟨j, by omega, e⟩)
          (fun j hj => by
            rcases Nat.lt_succ_iff_lt_or_eq.1 hj with hj | rfl
            · exact h3 j hj
            · exact hc)
        refine ⟨r, Ev.step (fun _ => by simp only [partition_Saturates.j2]; rfl) (ev_pos hx.1 (ev_pos (by omega) (ev_neg hz (ev_pos hc ?_)))), he⟩
        rw [wrap_succ hlt (by omega)]
        exact hr
      · refine ⟨false, Ev.step (fun _ => by simp only [partition_Saturates.j2]; rfl) (ev_pos hx.1 (ev_pos (by omega) (ev_neg hz (ev_neg hc (ev_some false))))), ?_⟩
        obtain ⟨j, hj, e1, e2⟩ := h2 _ hx.1 hx.2 hz
        simp only [Bool.false_eq_true, false_iff]
        intro hcm
        exact hc (by rw [← e2, hcm j i (by omega) hlt e1])
theorem saturates_ev (p : List Int) (s : List Bool) : ∃ r : Bool, Ev (fun k => partition_Saturates.f k p s) r ∧ (r = true ↔ (vld p = true ∧ p.length = s.length) ∧ Sat p s) := by
  by_cases hp : vld p = true
  · by_cases hl : p.length = s.length
    · have vp := vld_mem hp
      have hc := cnt_bounds hp
      have he := count_ev p
      simp only [hp, if_true] at he
      obtain ⟨r, hr, hi⟩ := saturates_l0 p s vp.1 hl (cnt p).toNat (fun x hx => ⟨(vp.2 x hx).1, by have := hc.2.2 x hx; omega⟩) _ 0 (List.replicate (cnt p).toNat 0) rfl (by omega) (by simp)
        (fun _ _ _ _ j hj => by omega) (fun x h0 hx hne => by
          obtain ⟨a, rfl⟩ := Int.eq_ofNat_of_zero_le h0
          rw [rd_at _ _ (by simp; omega)] at hne
          simp at hne) (fun j hj => by omega)
      have hr' : Ev (fun k => partition_Saturates.l0 k s (List.replicate (cnt p).toNat 0) p (p.length : Int) 0) r := hr
      have h0 := hc.1
      have h4 : (cnt p).toNat ≤ 35184372088832 := by omega
      exact ⟨r, ev_bind (valid_ev p) (ev_pos hp (Ev.step (fun _ => by simp only [partition_Saturates.j0]; rfl) (ev_neg (by simp [hl]) (ev_bind he (ev_pos h0 (ev_pos h4 hr')))))), by simp [hp, hl, hi]⟩
    · exact ⟨false, ev_bind (valid_ev p) (ev_pos hp (Ev.step (fun _ => by simp only [partition_Saturates.j0]; rfl) (ev_pos (by simp; omega) (ev_some false)))), by simp [hl]⟩
  · exact ⟨false, ev_bind (valid_ev p) (ev_neg hp (Ev.step (fun _ => by simp only [partition_Saturates.j0]; rfl) (ev_some false))), by simp [hp]⟩

theorem rdL_at (l : List (List Int)) (i : Nat) (h : i < l.length) : rd_L1 l (i : Int) = l[i] := by simp [rd_L1, List.getD, h]

def S (s : List Bool) (y : Int) : Bool := rdOf false s y
def rowOk (s : List Bool) (c : List Int) : Bool := c.all (fun y => S s y == S s (rd c 0))
theorem law_l1 (s : List Bool) (x5 : Bool) (c : List Int) (rows : List (List Int)) (n i : Int) (hc : ∀ y ∈ c, 0 ≤ y ∧ y < s.length) (hl : c.length ≤ 4096) : ∀ (d j : Nat) (x6 : Bool), c.length - j = d → j ≤ c.length →
    Ev (fun k => semigrouplaw03_PartitionSaturates.l0 k s x5 (x6 && (c.drop j).all (fun y => S s y == S s (rd c 0))) rows n (wrap64 (i + 1))) true →
    Ev (fun k => semigrouplaw03_PartitionSaturates.l1 k s x5 x6 c rows n i c (c.length : Int) (j : Int)) true := by
  intro d
  induction d with
  | zero =>
    intro j x6 hd hj h
    rw [List.drop_of_length_le (by omega)] at h
    refine Ev.step (fun _ => by simp only [semigrouplaw03_PartitionSaturates.l1]; rfl) (ev_neg (by omega) ?_)
    simpa using h
  | succ d ih =>
    intro j x6 hd hj h
    have hlt : j < c.length := by omega
    rw [List.drop_eq_getElem_cons hlt, List.all_cons] at h
    have hy := hc _ (List.getElem_mem hlt)
    have h0 := hc _ (rd_mem c 0 (by omega))
    refine Ev.step (fun _ => by simp only [semigrouplaw03_PartitionSaturates.l1]; rfl) (ev_pos (by omega) (ev_pos (by omega) (ev_pos (by omega) ?_)))
    rw [rd_at c j hlt, wrap_succ hlt (by omega)]
    cases x6 with
    | true =>
      refine ev_pos rfl (ev_pos hy.1 (ev_pos hy.2 (ev_pos (by omega) (ev_pos h0.1 (ev_pos h0.2 (ih (j + 1) _ (by omega) (by omega) ?_))))))
      simpa [S] using h
    | false =>
      refine ev_neg (by simp) (ih (j + 1) _ (by omega) (by omega) ?_)
      simpa using h
theorem law_l0 (s : List Bool) (x5 : Bool) (rows : List (List Int)) (hr : rows.length ≤ 4096) (hc : ∀ c ∈ rows, (∀ y ∈ c, 0 ≤ y ∧ y < s.length) ∧ c.length ≤ 4096) : ∀ (d i : Nat) (x6 : Bool), rows.length - i = d → i ≤ rows.length → x5 = (x6 && (rows.drop i).all (rowOk s)) →
    Ev (fun k => semigrouplaw03_PartitionSaturates.l0 k s x5 x6 rows (rows.length : Int) (i : Int)) true := by
  intro d
  induction d with
  | zero =>
    intro i x6 hd hi h
    rw [List.drop_of_length_le (by omega)] at h
    refine Ev.step (fun _ => by simp only [semigrouplaw03_PartitionSaturates.l0]; rfl) (ev_neg (by omega) (ev_pos (by simp at h; simp [h]) (ev_bind awake_ev (ev_some _))))
  | succ d ih =>
    intro i x6 hd hi h
    have hlt : i < rows.length := by omega
    have hci := hc _ (List.getElem_mem hlt)
    rw [List.drop_eq_getElem_cons hlt, List.all_cons] at h
    refine Ev.step (fun _ => by simp only [semigrouplaw03_PartitionSaturates.l0]; rfl) (ev_pos (by omega) (ev_pos (by omega) (ev_pos (by omega) ?_)))
    rw [rdL_at rows i hlt]
    refine law_l1 s x5 rows[i] rows _ _ hci.1 hci.2 _ 0 x6 rfl (by omega) ?_
    rw [wrap_succ hlt (by omega)]
    refine ih (i + 1) _ (by omega) (by omega) ?_
    rw [h, List.drop_zero]
    simp [rowOk, Bool.and_assoc]
theorem rows_sat (p : List Int) (s : List Bool) (h : vld p = true) : (cls p).all (rowOk s) = true ↔ Sat p s := by
  have hc := cnt_bounds h
  have vp := vld_mem h
  rw [List.all_eq_true]
  constructor
  · intro ha i j hi hj e
    have hm := rd_mem p i hi
    have h1 := vp.2 _ hm
    have h2 := hc.2.2 _ hm
    obtain ⟨v, hv⟩ := Int.eq_ofNat_of_zero_le h1.1
    have hvl : v < (cls p).length := by rw [cls_length h]; omega
    have hrow := ha _ (List.getElem_mem hvl)
    have er : (cls p)[v] = idx (v : Int) p 0 := by rw [← rdL_at _ _ hvl, cls_row h _ (by omega)]
    rw [er, rowOk, List.all_eq_true] at hrow
    have ei := hrow (i : Int) ((mem_idx _ _ _ _).2 ⟨i, hi, by simp, hv⟩)
    have ej := hrow (j : Int) ((mem_idx _ _ _ _).2 ⟨j, hj, by simp, by rw [← e, hv]⟩)
    simp only [beq_iff_eq] at ei ej
    exact ei.trans ej.symm
  · intro hs c hcm
    obtain ⟨v, hvl, rfl⟩ := List.getElem_of_mem hcm
    rw [rowOk, List.all_eq_true]
    intro y hy
    have er : (cls p)[v] = idx (v : Int) p 0 := by rw [← rdL_at _ _ hvl, cls_row h _ (by omega)]
    have hlen : 0 < (cls p)[v].length := List.length_pos_of_mem hy
    have h0 := rd_mem (cls p)[v] 0 hlen
    rw [er] at hy h0
    obtain ⟨i, hi, ey, ei⟩ := (mem_idx _ _ _ _).1 hy
    obtain ⟨j, hj, e0, ej⟩ := (mem_idx _ _ _ _).1 h0
    rw [er]
    simp only [Nat.zero_add] at ey e0
    rw [show (((0 : Nat) : Int)) = 0 from rfl] at e0
    rw [ey, e0]
    simp only [beq_iff_eq]
    exact hs i j hi hj (ei.trans ej.symm)
theorem PartitionSaturates : semigrouplaw03_PartitionSaturates.Pure := by
  intro p s hp0 _
  obtain ⟨r, hr, he⟩ := saturates_ev p s
  refine Ev.rounds (ev_bind hr (ev_bind (refvalid_ev p) ?_))
  by_cases hp : vld p = true
  · refine ev_pos hp (Ev.step (fun _ => by simp only [semigrouplaw03_PartitionSaturates.j0]; rfl) ?_)
    by_cases hl : p.length = s.length
    · refine ev_neg (by simp [hl]) (ev_bind (refclasses_ev p hp) ?_)
      have hc := cnt_bounds hp
      refine law_l0 s r (cls p) (by rw [cls_length hp]; omega) (fun c hcm => ?_) _ 0 true rfl (by omega) ?_
      · refine ⟨fun y hy => ?_, ?_⟩
        · obtain ⟨v, hvl, rfl⟩ := List.getElem_of_mem hcm
          have er : (cls p)[v] = idx (v : Int) p 0 := by rw [← rdL_at _ _ hvl, cls_row hp _ (by omega)]
          rw [er] at hy
          obtain ⟨i, hi, ey, _⟩ := (mem_idx _ _ _ _).1 hy
          omega
        · have := clsF_rows p _ 0 (fun x hx => by rw [List.eq_of_mem_replicate hx]; simp) c hcm
          have := (vld_mem hp).1
          omega
      · rw [List.drop_zero, Bool.true_and, Bool.eq_iff_iff, he, rows_sat p s hp]
        simp [hp, hl]
    · have hf : ¬ r = true := by rw [he]; simp [hl]
      exact ev_pos (by simp; omega) (ev_neg hf (ev_bind awake_ev (ev_some _)))
  · have hf : ¬ r = true := by rw [he]; simp [hp]
    exact ev_neg hp (Ev.step (fun _ => by simp only [semigrouplaw03_PartitionSaturates.j0]; rfl) (ev_neg hf (ev_bind awake_ev (ev_some _))))

end Go.Proofs.Ytjpghckijecdcaa.Pure
