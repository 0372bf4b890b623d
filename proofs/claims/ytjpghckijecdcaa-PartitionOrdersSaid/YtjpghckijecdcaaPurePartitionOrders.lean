/- partition.Refines says of any two partitions what the reference says (of at most 60 points), and false if they aren't valid or of different sizes; no condition. -/
import Derived.Test.YtjpghckijecdcaaPPartitionOrdersx3
namespace Go.Proofs.Ytjpghckijecdcaa.Pure
open Go.RowKit Go.Proofs.Ytjpghckijecdcaa.PPartitionOrders Go.Proofs.YtjpghckijecdcaaW.PrintWords Go.Proofs.YtjpghckijecdcaaW.PrintLast Go.Proofs.YtjpghckijecdcaaH

theorem same_l0 (a b : List Int) (hab : a.length = b.length) (hn : a.length ≤ 140737488355328) : ∀ (d i : Nat), a.length - i = d → i ≤ a.length → a.take i = b.take i →
    Ev (fun k => semigroupref03_Same.l0 k a b (a.length : Int) (i : Int)) (decide (a = b)) := by
  intro d
  induction d with
  | zero =>
    intro i hd hi ht
    refine Ev.step (fun _ => rfl) (ev_neg (by omega) (ev_eq (ev_some true) ?_))
    have h1 : a.take i = a := List.take_of_length_le (by omega)
    have h2 : b.take i = b := List.take_of_length_le (by omega)
    rw [h1, h2] at ht
    simp [ht]
  | succ d ih =>
    intro i hd hi ht
    have hlt : i < a.length := by omega
    refine Ev.step (fun _ => rfl) (ev_pos (by omega) (ev_pos (by omega) (ev_pos (by omega) (ev_pos (by omega) ?_))))
    rw [rd_at a i hlt, rd_at b i (by omega)]
    by_cases h : a[i] = b[i]
    · refine ev_pos h ?_
      rw [wrap_succ hlt hn]
      exact ih (i + 1) (by omega) (by omega) (by rw [List.take_succ_eq_append_getElem hlt, List.take_succ_eq_append_getElem (by omega), ht, h])
    · refine ev_neg h (ev_eq (ev_some false) ?_)
      symm
      rw [decide_eq_false_iff_not]
      rintro rfl
      exact h rfl
theorem same_ev (a b : List Int) (hn : a.length ≤ 140737488355328) : Ev (fun k => semigroupref03_Same.f k a b) (decide (a = b)) := by
  by_cases h : a.length = b.length
  · exact ev_pos (by omega) (same_l0 a b h hn _ 0 rfl (by omega) (by simp))
  · refine ev_neg (by omega) (ev_eq (ev_some false) ?_)
    symm
    rw [decide_eq_false_iff_not]
    rintro rfl
    exact h rfl

theorem valid_l0 (l : List Int) (hn : l.length ≤ 4096) : ∀ (d i n : Nat), l.length - i = d → i ≤ l.length → n ≤ i → Ev (fun k => partition_Valid.l0 k (n : Int) l (l.length : Int) (i : Int)) (rgs n (l.drop i)) := by
  intro d
  induction d with
  | zero =>
    intro i n hd hi hni
    refine Ev.step (fun _ => by simp only [partition_Valid.l0]; rfl) (ev_neg (by omega) (ev_eq (ev_some true) ?_))
    rw [List.drop_of_length_le (by omega)]
    rfl
  | succ d ih =>
    intro i n hd hi hni
    have hlt : i < l.length := by omega
    rw [List.drop_eq_getElem_cons hlt]
    refine Ev.step (fun _ => by simp only [partition_Valid.l0]; rfl) (ev_pos (by omega) (ev_pos (by omega) (ev_pos (by omega) ?_)))
    rw [rd_at l i hlt]
    by_cases h1 : l[i] < 0
    · refine ev_pos h1 (Ev.step (fun _ => by simp only [partition_Valid.j1]; rfl) (ev_pos (Eq.refl true) (ev_eq (ev_some false) ?_)))
      rw [rgs, if_pos (by omega)]
    · refine ev_neg h1 (Ev.step (fun _ => by simp only [partition_Valid.j1]; rfl) ?_)
      by_cases h2 : l[i] > (n : Int)
      · refine ev_pos (by simpa using h2) (ev_eq (ev_some false) ?_)
        rw [rgs, if_pos (by omega)]
      · refine ev_neg (by simpa using h2) ?_
        rw [rgs, if_neg (by omega), wrap_succ hlt (by omega)]
        by_cases h3 : l[i] = (n : Int)
        · refine ev_pos h3 ?_
          rw [wrap_succ (i := n) (n := 5000) (by omega) (by omega), if_pos h3]
          exact ih (i + 1) (n + 1) (by omega) (by omega) (by omega)
        · refine ev_neg h3 ?_
          rw [if_neg h3]
          exact ih (i + 1) n (by omega) (by omega) (by omega)
def vld (l : List Int) : Bool := decide (l.length ≤ 4096) && rgs 0 l
theorem valid_ev (l : List Int) : Ev (fun k => partition_Valid.f k l) (vld l) := by
  by_cases h : l.length ≤ 4096
  · exact ev_neg (by omega) (ev_eq (valid_l0 l h _ 0 0 rfl (by omega) (by omega)) (by simp [vld, h]))
  · exact ev_pos (by omega) (ev_eq (ev_some false) (by simp [vld, h]))

theorem refvalid_ev (l : List Int) : Ev (fun k => semigroupref03_Valid.f k l) (vld l) := by
  by_cases h : l.length ≤ 4096
  · refine ev_pos (by omega) (ev_bind0 (a := (canonL l).2) (by rw [semigroupref03_Canonical.f, if_neg (by omega)]) (ev_bind (same_ev _ _ (by omega)) (ev_eq (ev_some _) ?_)))
    have hc := canon_id l
    have e : (decide (l = (canonL l).2)) = rgs 0 l := by
      rw [Bool.eq_iff_iff, ← hc, decide_eq_true_iff]
      exact eq_comm
    rw [e]
    simp [vld, h]
  · exact ev_neg (by omega) (ev_eq (ev_some false) (by simp [vld, h]))

theorem awake_ev : Ev (fun k => semigrouplaw03_awake.f k) true := by
  refine ev_bind0 (a := [0, 1, 0]) (by decide) (ev_bind (same_ev _ _ (by simp)) (ev_eq (ev_some _) (by simp)))

def bothB (p q : List Int) : Bool := decide (p.length = q.length) && vld p && vld q
theorem both_ev (p q : List Int) : Ev (fun k => partition_both.f k p q) (bothB p q) := by
  by_cases h : p.length = q.length
  · refine ev_pos (by omega) (ev_bind (valid_ev p) ?_)
    by_cases hp : vld p = true
    · exact ev_pos hp (ev_bind (valid_ev q) (ev_eq (ev_some _) (by simp [bothB, h, hp])))
    · exact ev_neg hp (ev_eq (ev_some false) (by simp [bothB, hp]))
  · exact ev_neg (by omega) (ev_eq (ev_some false) (by simp [bothB, h]))

theorem mx_l (a b : Int) : a ≤ mx a b := by unfold mx; split <;> omega
theorem mx_r (a b : Int) : b ≤ mx a b := by unfold mx; split <;> omega
theorem mx_le {a b c : Int} (h : a ≤ c) (h' : b ≤ c) : mx a b ≤ c := by unfold mx; split <;> omega
def cntF : Int → List Int → Int
  | n, [] => n
  | n, x :: l => cntF (mx n (x + 1)) l
theorem cntF_ge : ∀ (l : List Int) (n : Int), n ≤ cntF n l
  | [], _ => Int.le_refl _
  | x :: l, n => by
    have := cntF_ge l (mx n (x + 1))
    have := mx_l n (x + 1)
    unfold cntF
    omega
theorem cntF_mem : ∀ (l : List Int) (n : Int), ∀ x ∈ l, x < cntF n l
  | [], _, x, h => by simp at h
  | y :: l, n, x, h => by
    unfold cntF
    rcases List.mem_cons.1 h with rfl | h
    · have := cntF_ge l (mx n (x + 1))
      have := mx_r n (x + 1)
      omega
    · exact cntF_mem l _ x h
theorem cntF_le : ∀ (l : List Int) (n B : Int), n ≤ B → (∀ x ∈ l, x + 1 ≤ B) → cntF n l ≤ B
  | [], _, _, h, _ => h
  | y :: l, n, B, h, h2 => by
    unfold cntF
    exact cntF_le l _ B (mx_le h (h2 y (by simp))) (fun x hx => h2 x (by simp [hx]))
def cnt (l : List Int) : Int := cntF 0 l
theorem rgs_mem : ∀ (l : List Int) (n : Nat), rgs n l = true → ∀ x ∈ l, 0 ≤ x ∧ x < n + l.length
  | [], _, _, x, h => by simp at h
  | y :: l, n, hr, x, h => by
    unfold rgs at hr
    split at hr
    · cases hr
    · rename_i hy
      rcases List.mem_cons.1 h with rfl | h
      · simp only [List.length_cons]; omega
      · have := rgs_mem l _ hr x h
        simp only [List.length_cons]
        split at this <;> omega
theorem vld_mem {l : List Int} (h : vld l = true) : l.length ≤ 4096 ∧ ∀ x ∈ l, 0 ≤ x ∧ x < 4096 := by
  unfold vld at h
  simp only [Bool.and_eq_true, decide_eq_true_eq] at h
  refine ⟨h.1, fun x hx => ?_⟩
  have := rgs_mem l 0 h.2 x hx
  omega
theorem cnt_bounds {l : List Int} (h : vld l = true) : 0 ≤ cnt l ∧ cnt l ≤ 4096 ∧ ∀ x ∈ l, x < cnt l :=
  ⟨cntF_ge l 0, cntF_le l 0 4096 (by omega) (fun x hx => by have := (vld_mem h).2 x hx; omega), cntF_mem l 0⟩

theorem count_l0 (l : List Int) (hn : l.length ≤ 4096) (hm : ∀ x ∈ l, 0 ≤ x ∧ x < 4096) : ∀ (d i : Nat) (n : Int), l.length - i = d → i ≤ l.length → Ev (fun k => partition_Count.l0 k n l (l.length : Int) (i : Int)) (cntF n (l.drop i)) := by
  intro d
  induction d with
  | zero =>
    intro i n hd hi
    refine Ev.step (fun _ => rfl) (ev_neg (by omega) (ev_eq (ev_some n) ?_))
    rw [List.drop_of_length_le (by omega)]
    rfl
  | succ d ih =>
    intro i n hd hi
    have hlt : i < l.length := by omega
    rw [List.drop_eq_getElem_cons hlt]
    have hx := hm l[i] (List.getElem_mem hlt)
    refine Ev.step (fun _ => rfl) (ev_pos (by omega) (ev_pos (by omega) (ev_pos (by omega) ?_)))
    rw [rd_at l i hlt, wrap_succ hlt (by omega), wrap_in (by omega) (by omega)]
    exact ih (i + 1) _ (by omega) (by omega)
theorem count_ev (l : List Int) : Ev (fun k => partition_Count.f k l) (if vld l = true then cnt l else 0) := by
  refine ev_bind (valid_ev l) ?_
  by_cases h : vld l = true
  · have hv := vld_mem h
    simp only [h, if_true]
    exact count_l0 l hv.1 hv.2 _ 0 0 rfl (by omega)
  · simp only [h, Bool.false_eq_true, if_false]
    exact ev_some 0

/-- Points of one class of p are of one class of q. -/
def Compat (p q : List Int) : Prop := ∀ i j : Nat, i < p.length → j < p.length → rd p i = rd p j → rd q i = rd q j
theorem rd_mem (l : List Int) (i : Nat) (h : i < l.length) : rd l (i : Int) ∈ l := by rw [rd_at l i h]; exact List.getElem_mem h
theorem rd_set (l : List Int) (x y : Int) (v : Int) (hx : 0 ≤ x) (hy : 0 ≤ y) (hl : x < l.length) : rd (l.set x.toNat v) y = if x = y then v else rd l y := by
  obtain ⟨a, rfl⟩ := Int.eq_ofNat_of_zero_le hx
  obtain ⟨b, rfl⟩ := Int.eq_ofNat_of_zero_le hy
  simp only [Int.toNat_natCast, rd, List.getD_eq_getElem?_getD, List.getElem?_set]
  by_cases h : a = b
  · subst h
    have hl' : a < l.length := by omega
    simp [hl']
  · have h' : ¬ ((a : Int) = (b : Int)) := by omega
    rw [if_neg h, if_neg h']
theorem refines_l1 (p q : List Int) (hn : p.length ≤ 4096) (hpq : p.length = q.length) (c : Nat) (hp : ∀ x ∈ p, 0 ≤ x ∧ x < c) (hq : ∀ x ∈ q, 0 ≤ x) : ∀ (d i : Nat) (t : List Int), p.length - i = d → i ≤ p.length → t.length = c →
    (∀ x : Int, 0 ≤ x → x < c → rd t x < 0 → ∀ j : Nat, j < i → rd p j ≠ x) → (∀ x : Int, 0 ≤ x → x < c → 0 ≤ rd t x → ∃ j : Nat, j < i ∧ rd p j = x ∧ rd q j = rd t x) → (∀ j : Nat, j < i → rd t (rd p j) = rd q j) →
    ∃ r : Bool, Ev (fun k => partition_Refines.l1 k q t p (p.length : Int) (i : Int)) r ∧ (r = true ↔ Compat p q) := by
  intro d
  induction d with
  | zero =>
    intro i t hd hi ht h1 h2 h3
    refine ⟨true, Ev.step (fun _ => rfl) (ev_neg (by omega) (ev_some true)), fun _ => ?_, fun _ => rfl⟩
    intro a b ha hb e
    rw [← h3 a (by omega), ← h3 b (by omega), e]
  | succ d ih =>
    intro i t hd hi ht h1 h2 h3
    have hlt : i < p.length := by omega
    have hx := hp _ (rd_mem p i hlt)
    have hy := hq _ (rd_mem q i (by omega))
    by_cases hneg : rd t (rd p i) < 0
    · obtain ⟨r, hr, he⟩ := ih (i + 1) (t.set (rd p i).toNat (rd q i)) (by omega) (by omega) (by rw [List.length_set, ht])
        (fun x hx0 hxc hlt0 j hj => by
          rw [rd_set _ _ _ _ hx.1 hx0 (by omega)] at hlt0
          split at hlt0
          · omega
          · rcases Nat.lt_succ_iff_lt_or_eq.1 hj with hj | rfl
            · exact h1 x hx0 hxc hlt0 j hj
            · assumption)
        (fun x hx0 hxc hge => by
          rw [rd_set _ _ _ _ hx.1 hx0 (by omega)] at hge ⊢
          split
          · exact ⟨i, by omega, by assumption, rfl⟩
          · rename_i hne
            rw [if_neg hne] at hge
            obtain ⟨j, hj, e1, e2⟩ := h2 x hx0 hxc hge
            exact ⟨j, by omega, e1, e2⟩)
        (fun j hj => by
          rcases Nat.lt_succ_iff_lt_or_eq.1 hj with hj | rfl
          · have hxj := hp _ (rd_mem p j (by omega))
            rw [rd_set _ _ _ _ hx.1 hxj.1 (by omega), if_neg (fun e => h1 _ hx.1 hx.2 hneg j hj e.symm)]
            exact h3 j hj
          · rw [rd_set _ _ _ _ hx.1 hx.1 (by omega), if_pos rfl])
      refine ⟨r, Ev.step (fun _ => rfl) (ev_pos (by omega) (ev_pos (by omega) (ev_pos (by omega) (ev_pos hx.1 (ev_pos (by omega) (ev_pos hneg (ev_pos (by omega) ?_))))))), he⟩
      refine ev_bind0 rfl (ev_pos (by rw [rd_set _ _ _ _ hx.1 hx.1 (by omega), if_pos rfl]) ?_)
      rw [wrap_succ hlt (by omega)]
      exact hr
    · by_cases hc : rd t (rd p i) = rd q i
      · obtain ⟨r, hr, he⟩ := ih (i + 1) t (by omega) (by omega) ht
          (fun x hx0 hxc hlt0 j hj => by
            rcases Nat.lt_succ_iff_lt_or_eq.1 hj with hj | rfl
            · exact h1 x hx0 hxc hlt0 j hj
            · rintro rfl; exact hneg hlt0)
          (fun x hx0 hxc hge => by obtain ⟨j, hj, e⟩ := h2 x hx0 hxc hge; exact ⟨j, by omega, e⟩)
          (fun j hj => by
            rcases Nat.lt_succ_iff_lt_or_eq.1 hj with hj | rfl
            · exact h3 j hj
            · exact hc)
        refine ⟨r, Ev.step (fun _ => rfl) (ev_pos (by omega) (ev_pos (by omega) (ev_pos (by omega) (ev_pos hx.1 (ev_pos (by omega) (ev_neg hneg (ev_pos (by omega) (ev_pos hc ?_)))))))), he⟩
        rw [wrap_succ hlt (by omega)]
        exact hr
      · refine ⟨false, Ev.step (fun _ => rfl) (ev_pos (by omega) (ev_pos (by omega) (ev_pos (by omega) (ev_pos hx.1 (ev_pos (by omega) (ev_neg hneg (ev_pos (by omega) (ev_neg hc (ev_some false))))))))), ?_⟩
        obtain ⟨j, hj, e1, e2⟩ := h2 _ hx.1 hx.2 (by omega)
        simp only [Bool.false_eq_true, false_iff]
        intro hcm
        exact hc (by rw [← e2]; exact hcm j i (by omega) hlt e1)
theorem refines_l0 (p q : List Int) (c : Nat) (hc : c ≤ 4096) (r : Bool) (h : Ev (fun k => partition_Refines.l1 k q (List.replicate c (-1)) p (p.length : Int) 0) r) : ∀ (d i : Nat) (t : List Int), c - i = d → i ≤ c → t.length = c → (∀ j, j < i → t[j]? = some (-1)) →
    Ev (fun k => partition_Refines.l0 k p q t (c : Int) (i : Int)) r := by
  intro d
  induction d with
  | zero =>
    intro i t hd hi ht h1
    have e : t = List.replicate c (-1) := by
      apply List.ext_getElem?
      intro j
      by_cases hj : j < c
      · rw [h1 j (by omega)]; simp [hj]
      · rw [List.getElem?_eq_none (by omega), List.getElem?_eq_none (by simp; omega)]
    subst e
    exact Ev.step (fun _ => rfl) (ev_neg (by omega) h)
  | succ d ih =>
    intro i t hd hi ht h1
    refine Ev.step (fun _ => rfl) (ev_pos (by omega) (ev_pos (by omega) (ev_pos (by omega) ?_)))
    rw [wrap_succ (n := c) (by omega) (by omega)]
    refine ih (i + 1) _ (by omega) (by omega) (by rw [List.length_set, ht]) (fun j hj => ?_)
    rw [Int.toNat_natCast, List.getElem?_set]
    by_cases hij : i = j
    · subst hij; simp; omega
    · rw [if_neg hij]; exact h1 j (by omega)
theorem refines_ev (p q : List Int) : ∃ r : Bool, Ev (fun k => partition_Refines.f k p q) r ∧ (r = true ↔ bothB p q = true ∧ Compat p q) := by
  by_cases hb : bothB p q = true
  · have hb' := hb
    simp only [bothB, Bool.and_eq_true, decide_eq_true_eq] at hb'
    obtain ⟨⟨hl, hp⟩, hq⟩ := hb'
    have vp := vld_mem hp
    have vq := vld_mem hq
    have hc := cnt_bounds hp
    have he := count_ev p
    simp only [hp, if_true] at he
    obtain ⟨r, hr, hi⟩ := refines_l1 p q vp.1 hl (cnt p).toNat (fun x hx => ⟨(vp.2 x hx).1, by have := hc.2.2 x hx; omega⟩) (fun x hx => (vq.2 x hx).1) _ 0 (List.replicate (cnt p).toNat (-1)) rfl (by omega) (by simp)
      (fun _ _ _ _ j hj => by omega) (fun x h0 hx hge => by
        obtain ⟨a, rfl⟩ := Int.eq_ofNat_of_zero_le h0
        rw [rd_at _ _ (by simp; omega)] at hge
        simp at hge) (fun j hj => by omega)
    refine ⟨r, ev_bind (both_ev p q) (ev_pos hb (ev_bind he (ev_pos (by omega) (ev_pos (by omega) (ev_bind0 rfl ?_))))), by simp [hb, hi]⟩
    have := refines_l0 p q (cnt p).toNat (by omega) r hr _ 0 (List.replicate (cnt p).toNat 0) rfl (by omega) (by simp) (fun j hj => by omega)
    simpa using this
  · exact ⟨false, ev_bind (both_ev p q) (ev_neg hb (ev_some false)), by simp [hb]⟩

theorem refrefines_l (p q : List Int) (hn : p.length ≤ 4096) (hpq : p.length = q.length) : ∀ (d i : Nat), p.length - i = d → i ≤ p.length →
    ∃ r : Bool, Ev (fun k => semigroupref03_Refines.l0 k p q (p.length : Int) (i : Int)) r ∧ (r = true ↔ ∀ a b : Nat, i ≤ a → a < p.length → b < p.length → rd p a = rd p b → rd q a = rd q b) := by
  intro d
  induction d with
  | zero =>
    intro i hd hi
    exact ⟨true, Ev.step (fun _ => by simp only [semigroupref03_Refines.l0]; rfl) (ev_neg (by omega) (ev_some true)), by simp; intro a b h1 h2; omega⟩
  | succ d ih =>
    intro i hd hi
    obtain ⟨r, hr, he⟩ := ih (i + 1) (by omega) (by omega)
    have inner : ∀ (e j : Nat), p.length - j = e → j ≤ p.length → ∃ r' : Bool, Ev (fun k => semigroupref03_Refines.l1 k p q (i : Int) (p.length : Int) (i : Int) (p.length : Int) (j : Int)) r' ∧
        (r' = true ↔ (∀ b : Nat, j ≤ b → b < p.length → rd p i = rd p b → rd q i = rd q b) ∧ r = true) := by
      intro e
      induction e with
      | zero =>
        intro j hd hj
        refine ⟨r, Ev.step (fun _ => by simp only [semigroupref03_Refines.l1]; rfl) (ev_neg (by omega) ?_), by simp; intro _ b h1 h2; omega⟩
        rw [wrap_succ (n := p.length) (by omega) (by omega)]
        exact hr
      | succ e ih2 =>
        intro j hd hj
        obtain ⟨r', hr', he'⟩ := ih2 (j + 1) (by omega) (by omega)
        by_cases h1 : rd p i = rd p j
        · by_cases h2 : rd q i = rd q j
          · refine ⟨r', Ev.step (fun _ => by simp only [semigroupref03_Refines.l1]; rfl) (ev_pos (by omega) (ev_pos (by omega) (ev_pos (by omega) (ev_pos (by omega) (ev_pos (by omega) (ev_pos h1 (ev_pos (by omega) (ev_pos (by omega) (ev_pos h2 ?_))))))))), ?_⟩
            · rw [wrap_succ (n := p.length) (by omega) (by omega)]; exact hr'
            · rw [he']
              constructor
              · rintro ⟨h, hh⟩
                refine ⟨fun b hb1 hb2 e => ?_, hh⟩
                rcases Nat.eq_or_lt_of_le hb1 with rfl | hb1
                · exact h2
                · exact h b hb1 hb2 e
              · rintro ⟨h, hh⟩
                exact ⟨fun b hb1 hb2 e => h b (by omega) hb2 e, hh⟩
          · refine ⟨false, Ev.step (fun _ => by simp only [semigroupref03_Refines.l1]; rfl) (ev_pos (by omega) (ev_pos (by omega) (ev_pos (by omega) (ev_pos (by omega) (ev_pos (by omega) (ev_pos h1 (ev_pos (by omega) (ev_pos (by omega) (ev_neg h2 (ev_some false)))))))))), ?_⟩
            simp only [Bool.false_eq_true, false_iff]
            rintro ⟨h, _⟩
            exact h2 (h j (Nat.le_refl _) (by omega) h1)
        · refine ⟨r', Ev.step (fun _ => by simp only [semigroupref03_Refines.l1]; rfl) (ev_pos (by omega) (ev_pos (by omega) (ev_pos (by omega) (ev_pos (by omega) (ev_pos (by omega) (ev_neg h1 ?_)))))), ?_⟩
          · rw [wrap_succ (n := p.length) (by omega) (by omega)]; exact hr'
          · rw [he']
            constructor
            · rintro ⟨h, hh⟩
              refine ⟨fun b hb1 hb2 e => ?_, hh⟩
              rcases Nat.eq_or_lt_of_le hb1 with rfl | hb1
              · exact absurd e h1
              · exact h b hb1 hb2 e
            · rintro ⟨h, hh⟩
              exact ⟨fun b hb1 hb2 e => h b (by omega) hb2 e, hh⟩
    obtain ⟨r', hr', he'⟩ := inner _ 0 rfl (by omega)
    refine ⟨r', Ev.step (fun _ => by simp only [semigroupref03_Refines.l0]; rfl) (ev_pos (by omega) hr'), ?_⟩
    rw [he', he]
    constructor
    · rintro ⟨h1, h2⟩ a b ha1 ha2 hb e
      rcases Nat.eq_or_lt_of_le ha1 with rfl | ha1
      · exact h1 b (by omega) hb e
      · exact h2 a b ha1 ha2 hb e
    · intro h
      exact ⟨fun b _ hb e => h i b (Nat.le_refl _) (by omega) hb e, fun a b h1 h2 h3 e => h a b (by omega) h2 h3 e⟩
theorem refrefines_ev (p q : List Int) (hn : p.length ≤ 4096) (hpq : p.length = q.length) : ∃ r : Bool, Ev (fun k => semigroupref03_Refines.f k p q) r ∧ (r = true ↔ Compat p q) := by
  obtain ⟨r, hr, he⟩ := refrefines_l p q hn hpq _ 0 rfl (by omega)
  exact ⟨r, hr, by rw [he]; exact ⟨fun h a b ha hb e => h a b (by omega) ha hb e, fun h a b _ ha hb e => h a b ha hb e⟩⟩

theorem PartitionOrders : semigrouplaw03_PartitionOrders.Pure := by
  intro p q _ _ _ _ _ _
  obtain ⟨r, hr, he⟩ := refines_ev p q
  refine Ev.rounds (ev_bind hr (ev_bind (refvalid_ev p) ?_))
  by_cases hp : vld p = true
  · refine ev_pos hp (ev_bind (refvalid_ev q) ?_)
    by_cases hq : vld q = true
    · refine ev_pos hq (Ev.step (fun _ => rfl) ?_)
      by_cases hl : p.length = q.length
      · refine ev_neg (by simp [hl]) ?_
        by_cases h6 : p.length ≤ 60
        · obtain ⟨r', hr', he'⟩ := refrefines_ev p q (by omega) hl
          have e : r = r' := by
            rw [Bool.eq_iff_iff, he, he']
            simp [bothB, hl, hp, hq]
          exact ev_neg (by omega) (ev_bind hr' (ev_pos (by simp [e]) (ev_bind awake_ev (ev_some _))))
        · exact ev_pos (by omega) (ev_bind awake_ev (ev_some _))
      · have hf : ¬ r = true := by rw [he]; simp [bothB, hl]
        exact ev_pos (by simp; omega) (ev_neg hf (ev_bind awake_ev (ev_some _)))
    · have hf : ¬ r = true := by rw [he]; simp [bothB, hq]
      exact ev_neg hq (Ev.step (fun _ => rfl) ((ev_neg hf (ev_bind awake_ev (ev_some _)))))
  · have hf : ¬ r = true := by rw [he]; simp [bothB, hp]
    exact ev_neg hp (Ev.step (fun _ => rfl) ((ev_neg hf (ev_bind awake_ev (ev_some _)))))

end Go.Proofs.Ytjpghckijecdcaa.Pure
