/- partition.All lists of any number of points what the reference lists (at most 7 points), and nothing of other numbers; no condition. -/
import Derived.Test.YtjpghckijecdcaaPPartitionAllx3
namespace Go.Proofs.Ytjpghckijecdcaa.Pure
open Go.RowKit Go.Proofs.Ytjpghckijecdcaa.PPartitionAll Go.Proofs.YtjpghckijecdcaaW.PrintWords Go.Proofs.YtjpghckijecdcaaW.PrintLast Go.Proofs.YtjpghckijecdcaaH
set_option linter.unusedVariables false
set_option linter.unusedSimpArgs false

theorem same_l0 (a b : List Int) (hab : a.length = b.length) (hn : a.length ≤ 140737488355328) : ∀ (d i : Nat), a.length - i = d → i ≤ a.length → a.take i = b.take i →
    Ev (fun k => semigroupref03_Same.l0 k a b (a.length : Int) (i : Int)) (decide (a = b)) := by
  intro d
  induction d with
  | zero =>
    intro i hd hi ht
    refine Ev.step (fun _ => rfl) (ev_neg (by omega) (ev_eq (ev_some true) ?_))
    have h1 : a.take i = a := List.take_of_length_le (by omega)
    have h2 : b.take i = b := List.take_of_length_le (by omega)
    rw [h1, h2] at ht
    simp [ht]
  | succ d ih =>
    intro i hd hi ht
    have hlt : i < a.length := by omega
    refine Ev.step (fun _ => rfl) (ev_pos (by omega) (ev_pos (by omega) (ev_pos (by omega) (ev_pos (by omega) ?_))))
    rw [rd_at a i hlt, rd_at b i (by omega)]
    by_cases h : a[i] = b[i]
    · refine ev_pos h ?_
      rw [wrap_succ hlt hn]
      exact ih (i + 1) (by omega) (by omega) (by rw [List.take_succ_eq_append_getElem hlt, List.take_succ_eq_append_getElem (by omega), ht, h])
    · refine ev_neg h (ev_eq (ev_some false) ?_)
      symm
      rw [decide_eq_false_iff_not]
      rintro rfl
      exact h rfl
theorem same_ev (a b : List Int) (hn : a.length ≤ 140737488355328) : Ev (fun k => semigroupref03_Same.f k a b) (decide (a = b)) := by
  by_cases h : a.length = b.length
  · exact ev_pos (by omega) (same_l0 a b h hn _ 0 rfl (by omega) (by simp))
  · refine ev_neg (by omega) (ev_eq (ev_some false) ?_)
    symm
    rw [decide_eq_false_iff_not]
    rintro rfl
    exact h rfl

theorem awake_ev : Ev (fun k => semigrouplaw03_awake.f k) true := by
  refine ev_bind0 (a := [0, 1, 0]) (by decide) (ev_bind (same_ev _ _ (by simp)) (ev_eq (ev_some _) (by simp)))

def vld (l : List Int) : Bool := decide (l.length ≤ 4096) && rgs 0 l

theorem valid_l0 (l : List Int) (hn : l.length ≤ 4096) : ∀ (d i n : Nat), l.length - i = d → i ≤ l.length → n ≤ i → Ev (fun k => partition_Valid.l0 k (n : Int) l (l.length : Int) (i : Int)) (rgs n (l.drop i)) := by
  intro d
  induction d with
  | zero =>
    intro i n hd hi hni
    refine Ev.step (fun _ => by simp only [partition_Valid.l0]; rfl) (ev_neg (by omega) (ev_eq (ev_some true) ?_))
    rw [List.drop_of_length_le (by omega)]
    rfl
  | succ d ih =>
    intro i n hd hi hni
    have hlt : i < l.length := by omega
    rw [List.drop_eq_getElem_cons hlt]
    refine Ev.step (fun _ => by simp only [partition_Valid.l0]; rfl) (ev_pos (by omega) (ev_pos (by omega) (ev_pos (by omega) ?_)))
    rw [rd_at l i hlt]
    by_cases h1 : l[i] < 0
    · refine ev_pos h1 (Ev.step (fun _ => by simp only [partition_Valid.j1]; rfl) (ev_pos (Eq.refl true) (ev_eq (ev_some false) ?_)))
      rw [rgs, if_pos (by omega)]
    · refine ev_neg h1 (Ev.step (fun _ => by simp only [partition_Valid.j1]; rfl) ?_)
      by_cases h2 : l[i] > (n : Int)
      · refine ev_pos (by simpa using h2) (ev_eq (ev_some false) ?_)
        rw [rgs, if_pos (by omega)]
      · refine ev_neg (by simpa using h2) ?_
        rw [rgs, if_neg (by omega), wrap_succ hlt (by omega)]
        by_cases h3 : l[i] = (n : Int)
        · refine ev_pos h3 ?_
          rw [wrap_succ (i := n) (n := 5000) (by omega) (by omega), if_pos h3]
          exact ih (i + 1) (n + 1) (by omega) (by omega) (by omega)
        · refine ev_neg h3 ?_
          rw [if_neg h3]
          exact ih (i + 1) n (by omega) (by omega) (by omega)
theorem valid_ev (l : List Int) : Ev (fun k => partition_Valid.f k l) (vld l) := by
  by_cases h : l.length ≤ 4096
  · exact ev_neg (by omega) (ev_eq (valid_l0 l h _ 0 0 rfl (by omega) (by omega)) (by simp [vld, h]))
  · exact ev_pos (by omega) (ev_eq (ev_some false) (by simp [vld, h]))

theorem mx_l (a b : Int) : a ≤ mx a b := by unfold mx; split <;> omega
theorem mx_r (a b : Int) : b ≤ mx a b := by unfold mx; split <;> omega
theorem mx_le {a b c : Int} (h : a ≤ c) (h' : b ≤ c) : mx a b ≤ c := by unfold mx; split <;> omega
def cntF : Int → List Int → Int
  | n, [] => n
  | n, x :: l => cntF (mx n (x + 1)) l
theorem cntF_ge : ∀ (l : List Int) (n : Int), n ≤ cntF n l
  | [], _ => Int.le_refl _
  | x :: l, n => by
    have := cntF_ge l (mx n (x + 1))
    have := mx_l n (x + 1)
    unfold cntF
    omega
theorem cntF_mem : ∀ (l : List Int) (n : Int), ∀ x ∈ l, x < cntF n l
  | [], _, x, h => by simp at h
  | y :: l, n, x, h => by
    unfold cntF
    rcases List.mem_cons.1 h with rfl | h
    · have := cntF_ge l (mx n (x + 1))
      have := mx_r n (x + 1)
      omega
    · exact cntF_mem l _ x h
theorem cntF_le : ∀ (l : List Int) (n B : Int), n ≤ B → (∀ x ∈ l, x + 1 ≤ B) → cntF n l ≤ B
  | [], _, _, h, _ => h
  | y :: l, n, B, h, h2 => by
    unfold cntF
    exact cntF_le l _ B (mx_le h (h2 y (by simp))) (fun x hx => h2 x (by simp [hx]))
def cnt (l : List Int) : Int := cntF 0 l
theorem rgs_mem : ∀ (l : List Int) (n : Nat), rgs n l = true → ∀ x ∈ l, 0 ≤ x ∧ x < n + l.length
  | [], _, _, x, h => by simp at h
  | y :: l, n, hr, x, h => by
    unfold rgs at hr
    split at hr
    · cases hr
    · rename_i hy
      rcases List.mem_cons.1 h with rfl | h
      · simp only [List.length_cons]; omega
      · have := rgs_mem l _ hr x h
        simp only [List.length_cons]
        split at this <;> omega
theorem vld_mem {l : List Int} (h : vld l = true) : l.length ≤ 4096 ∧ ∀ x ∈ l, 0 ≤ x ∧ x < 4096 := by
  unfold vld at h
  simp only [Bool.and_eq_true, decide_eq_true_eq] at h
  refine ⟨h.1, fun x hx => ?_⟩
  have := rgs_mem l 0 h.2 x hx
  omega
theorem cnt_bounds {l : List Int} (h : vld l = true) : 0 ≤ cnt l ∧ cnt l ≤ 4096 ∧ ∀ x ∈ l, x < cnt l :=
  ⟨cntF_ge l 0, cntF_le l 0 4096 (by omega) (fun x hx => by have := (vld_mem h).2 x hx; omega), cntF_mem l 0⟩

/-- All continuations of p by one point. -/
def ext1 (p : List Int) : List (List Int) := (List.range (cnt p + 1).toNat).map (fun c : Nat => p ++ [(c : Int)])
def allL : Nat → List (List Int)
  | 0 => [[]]
  | i + 1 => (allL i).flatMap ext1
def nxt : Nat → List Int → Nat
  | n, [] => n
  | n, x :: l => nxt (if x = n then n + 1 else n) l
theorem cntF_nxt : ∀ (l : List Int) (n : Nat), rgs n l = true → cntF (n : Int) l = (nxt n l : Int)
  | [], _, _ => rfl
  | x :: l, n, h => by
    unfold rgs at h
    split at h
    · cases h
    · rename_i hx
      have ih := cntF_nxt l _ h
      unfold cntF nxt
      rw [← ih]
      congr 1
      unfold mx
      split <;> split <;> omega
theorem rgs_snoc : ∀ (l : List Int) (n : Nat) (c : Int), rgs n (l ++ [c]) = (rgs n l && decide (0 ≤ c ∧ c ≤ nxt n l))
  | [], n, c => by
    show (if c < 0 ∨ c > (n : Int) then false else true) = decide (0 ≤ c ∧ c ≤ (n : Int))
    split
    · exact (decide_eq_false (by omega)).symm
    · exact (decide_eq_true (by omega)).symm
  | x :: l, n, c => by
    rw [List.cons_append]
    unfold rgs nxt
    split
    · rfl
    · exact rgs_snoc l _ c
theorem cnt_nxt {p : List Int} (h : vld p = true) : cnt p = (nxt 0 p : Int) := by
  simp only [vld, Bool.and_eq_true, decide_eq_true_eq] at h
  exact cntF_nxt p 0 h.2
theorem vld_snoc {p : List Int} (hp : p.length < 4096) (c : Int) : vld (p ++ [c]) = true ↔ vld p = true ∧ 0 ≤ c ∧ c ≤ cnt p := by
  constructor
  · intro h
    simp only [vld, Bool.and_eq_true, decide_eq_true_eq, rgs_snoc] at h
    have hv : vld p = true := by simp only [vld, Bool.and_eq_true, decide_eq_true_eq]; exact ⟨by omega, h.2.1⟩
    rw [cnt_nxt hv]
    exact ⟨hv, h.2.2⟩
  · rintro ⟨hv, hc⟩
    rw [cnt_nxt hv] at hc
    simp only [vld, Bool.and_eq_true, decide_eq_true_eq, rgs_snoc, List.length_append, List.length_singleton] at hv ⊢
    exact ⟨by omega, hv.2, hc⟩
theorem nxt_le : ∀ (l : List Int) (n : Nat), nxt n l ≤ n + l.length
  | [], n => by simp [nxt]
  | x :: l, n => by
    unfold nxt
    have := nxt_le l (if x = n then n + 1 else n)
    simp only [List.length_cons]
    split at this <;> split <;> omega
theorem mem_ext1 {p q : List Int} (hp : vld p = true) : q ∈ ext1 p ↔ ∃ c : Int, 0 ≤ c ∧ c ≤ cnt p ∧ q = p ++ [c] := by
  have := (cnt_bounds hp).1
  unfold ext1
  simp only [List.mem_map, List.mem_range]
  constructor
  · rintro ⟨c, hc, rfl⟩
    exact ⟨c, by omega, by omega, rfl⟩
  · rintro ⟨c, h0, h1, rfl⟩
    exact ⟨c.toNat, by omega, by rw [Int.toNat_of_nonneg h0]⟩
theorem mem_allL : ∀ (i : Nat), i ≤ 7 → ∀ q, q ∈ allL i ↔ vld q = true ∧ q.length = i
  | 0, _, q => by
    simp only [allL, List.mem_singleton]
    exact ⟨fun h => by subst h; exact ⟨by simp [vld, rgs], rfl⟩, fun h => List.eq_nil_of_length_eq_zero h.2⟩
  | i + 1, hi, q => by
    have ih := mem_allL i (by omega)
    simp only [allL, List.mem_flatMap]
    constructor
    · rintro ⟨p, hp, hq⟩
      obtain ⟨hv, hl⟩ := (ih p).1 hp
      obtain ⟨c, h0, h1, rfl⟩ := (mem_ext1 hv).1 hq
      exact ⟨(vld_snoc (by omega) c).2 ⟨hv, h0, h1⟩, by simp [hl]⟩
    · rintro ⟨hv, hl⟩
      obtain ⟨p, c, rfl⟩ : ∃ p c, q = p ++ [c] := ⟨q.dropLast, q.getLast (by intro e; rw [e] at hl; cases hl), (List.dropLast_concat_getLast _).symm⟩
      have hl' : p.length = i := by simpa using hl
      obtain ⟨h1, h2, h3⟩ := (vld_snoc (by omega) c).1 hv
      exact ⟨p, (ih p).2 ⟨h1, hl'⟩, (mem_ext1 h1).2 ⟨c, h2, h3, rfl⟩⟩
theorem ext1_len {p : List Int} (hp : vld p = true) (hl : p.length ≤ 7) : (ext1 p).length ≤ 8 := by
  have := cnt_nxt hp
  have := nxt_le p 0
  simp only [ext1, List.length_map, List.length_range]
  omega
theorem flat_len : ∀ (rows : List (List Int)), (∀ p ∈ rows, vld p = true ∧ p.length ≤ 7) → (rows.flatMap ext1).length ≤ 8 * rows.length
  | [], _ => by simp
  | p :: rows, h => by
    have h1 := flat_len rows (fun x hx => h x (List.mem_cons_of_mem _ hx))
    have h2 := ext1_len (h p (by simp)).1 (h p (by simp)).2
    rw [List.flatMap_cons, List.length_append, List.length_cons]
    omega
theorem allL_len : ∀ (i : Nat), i ≤ 7 → (allL i).length ≤ 8 ^ i
  | 0, _ => by simp [allL]
  | i + 1, hi => by
    have ih := allL_len i (by omega)
    have := flat_len (allL i) (fun p hp => by have := (mem_allL i (by omega) p).1 hp; exact ⟨this.1, by omega⟩)
    rw [Nat.pow_succ]
    simp only [allL]
    omega
theorem allL_small (i : Nat) (hi : i ≤ 7) : (allL i).length ≤ 2097152 := by
  have h := allL_len i hi
  have h2 : 8 ^ i ≤ 8 ^ 7 := Nat.pow_le_pow_right (by omega) hi
  have h3 : 8 ^ 7 = 2097152 := by decide
  omega
theorem range_split (a b : Nat) (f : Nat → List Int) (h : a < b) : (List.range' a (b - a)).map f = f a :: (List.range' (a + 1) (b - (a + 1))).map f := by
  obtain ⟨m, hm⟩ : ∃ m, b - a = m + 1 := ⟨b - a - 1, by omega⟩
  rw [hm, show b - (a + 1) = m from by omega, List.range'_succ, List.map_cons]

theorem count_l0 (l : List Int) (hn : l.length ≤ 4096) (hm : ∀ x ∈ l, 0 ≤ x ∧ x < 4096) : ∀ (d i : Nat) (n : Int), l.length - i = d → i ≤ l.length → Ev (fun k => partition_Count.l0 k n l (l.length : Int) (i : Int)) (cntF n (l.drop i)) := by
  intro d
  induction d with
  | zero =>
    intro i n hd hi
    refine Ev.step (fun _ => rfl) (ev_neg (by omega) (ev_eq (ev_some n) ?_))
    rw [List.drop_of_length_le (by omega)]
    rfl
  | succ d ih =>
    intro i n hd hi
    have hlt : i < l.length := by omega
    rw [List.drop_eq_getElem_cons hlt]
    have hx := hm l[i] (List.getElem_mem hlt)
    refine Ev.step (fun _ => rfl) (ev_pos (by omega) (ev_pos (by omega) (ev_pos (by omega) ?_)))
    rw [rd_at l i hlt, wrap_succ hlt (by omega), wrap_in (by omega) (by omega)]
    exact ih (i + 1) _ (by omega) (by omega)
theorem count_ev (l : List Int) : Ev (fun k => partition_Count.f k l) (if vld l = true then cnt l else 0) := by
  refine ev_bind (valid_ev l) ?_
  by_cases h : vld l = true
  · have hv := vld_mem h
    simp only [h, if_true]
    exact count_l0 l hv.1 hv.2 _ 0 0 rfl (by omega)
  · simp only [h, Bool.false_eq_true, if_false]
    exact ev_some 0

theorem rdL_at (l : List (List Int)) (i : Nat) (h : i < l.length) : rd_L1 l (i : Int) = l[i] := by simp [rd_L1, List.getD, h]

theorem copy_row (p : List Int) (i : Nat) (c : Int) (hp : p.length = i) : (copyL (List.replicate (i + 1) 0) p).set i c = p ++ [c] := by
  unfold copyL
  rw [List.take_of_length_le (by simp; omega), hp, List.drop_replicate, show i + 1 - i = 1 from by omega, List.set_append, if_neg (by omega), hp, Nat.sub_self]
  rfl
theorem all_l2 (n : Int) (rows : List (List Int)) (len : Int) (i j : Nat) (hi : i < 7) (p : List Int) (hv : vld p = true) (hp : p.length = i) (r : List (List Int)) : ∀ (d c : Nat) (x5 : List (List Int)), (cnt p + 1).toNat - c = d → x5.length + d ≤ 20000000 →
    Ev (fun k => partition_All.l1 k n (i : Int) (x5 ++ (List.range' c ((cnt p + 1).toNat - c)).map (fun c : Nat => p ++ [(c : Int)])) rows len (wrap64 ((j : Int) + 1))) r →
    Ev (fun k => partition_All.l2 k n (i : Int) x5 p (c : Int) rows len (j : Int)) r := by
  have hb := cnt_bounds hv
  have hce := count_ev p
  rw [if_pos hv] at hce
  have wi : wrap64 ((i : Int) + 1) = ((i + 1 : Nat) : Int) := by unfold wrap64; omega
  intro d
  induction d with
  | zero =>
    intro c x5 hd hx h
    rw [hd, List.range'_zero, List.map_nil, List.append_nil] at h
    exact Ev.step (fun _ => rfl) (ev_bind hce (ev_neg (by omega) h))
  | succ d ih =>
    intro c x5 hd hx h
    rw [range_split c _ _ (by omega)] at h
    refine Ev.step (fun _ => rfl) (ev_bind hce (ev_pos (by omega) (ev_pos (by rw [wi]; omega) (ev_pos (by rw [wi]; omega) (ev_bind0 rfl (ev_pos (by omega) (ev_pos (by rw [wi]; simp; omega) (ev_pos (by omega) ?_))))))))
    rw [wi, Int.toNat_natCast, Int.toNat_natCast, copy_row p i c hp, show wrap64 ((c : Int) + 1) = ((c + 1 : Nat) : Int) from by unfold wrap64; omega]
    refine ih (c + 1) _ (by omega) (by simp only [List.length_append, List.length_cons, List.length_nil]; omega) ?_
    rw [List.append_assoc, List.singleton_append]
    exact h
theorem all_l1 (n : Int) (rows : List (List Int)) (hr : rows.length ≤ 2097152) (i : Nat) (hi : i < 7) (hv : ∀ p ∈ rows, vld p = true ∧ p.length = i) (r : List (List Int)) : ∀ (d j : Nat) (x5 : List (List Int)), rows.length - j = d → j ≤ rows.length → x5.length ≤ 8 * j →
    Ev (fun k => partition_All.l0 k n (x5 ++ (rows.drop j).flatMap ext1) (wrap64 ((i : Int) + 1))) r →
    Ev (fun k => partition_All.l1 k n (i : Int) x5 rows (rows.length : Int) (j : Int)) r := by
  intro d
  induction d with
  | zero =>
    intro j x5 hd hj hx h
    rw [List.drop_eq_nil_of_le (by omega), List.flatMap_nil, List.append_nil] at h
    exact Ev.step (fun _ => rfl) (ev_neg (by omega) h)
  | succ d ih =>
    intro j x5 hd hj hx h
    have hjl : j < rows.length := by omega
    obtain ⟨h1, h2⟩ := hv _ (List.getElem_mem hjl)
    have hb := cnt_bounds h1
    have hel := ext1_len h1 (by omega)
    refine Ev.step (fun _ => rfl) (ev_pos (by omega) (ev_pos (by omega) (ev_pos (by omega) ?_)))
    rw [rdL_at rows j hjl]
    refine all_l2 n rows _ i j hi rows[j] h1 h2 r _ 0 x5 rfl (by simp only [ext1, List.length_map, List.length_range] at hel; omega) ?_
    rw [wrap_succ hjl (by omega), Nat.sub_zero, ← List.range_eq_range']
    refine ih (j + 1) _ (by omega) (by omega) (by rw [List.length_append]; simp only [ext1] at hel; omega) ?_
    rw [List.drop_eq_getElem_cons hjl, List.flatMap_cons] at h
    rw [List.append_assoc]
    exact h
theorem all_l0 (n : Nat) (hn : n ≤ 7) : ∀ (d i : Nat), n - i = d → i ≤ n → Ev (fun k => partition_All.l0 k (n : Int) (allL i) (i : Int)) (allL n) := by
  intro d
  induction d with
  | zero =>
    intro i hd hi
    rw [show i = n from by omega]
    exact Ev.step (fun _ => rfl) (ev_neg (by omega) (ev_some _))
  | succ d ih =>
    intro i hd hi
    refine Ev.step (fun _ => rfl) (ev_pos (by omega) (all_l1 (n : Int) (allL i) (allL_small i (by omega)) i (by omega) (fun p hp => (mem_allL i (by omega) p).1 hp) (allL n) _ 0 [] rfl (by omega) (by simp) ?_))
    rw [List.nil_append, List.drop_zero, show wrap64 ((i : Int) + 1) = ((i + 1 : Nat) : Int) from by unfold wrap64; omega]
    exact ih (i + 1) (by omega) (by omega)
theorem all_ev (n : Nat) (hn : n ≤ 7) : Ev (fun k => partition_All.f k (n : Int)) (allL n) := by
  have J : ∀ b : Bool, b = false → Ev (fun k => partition_All.j0 k (n : Int) b) (allL n) := fun b e => Ev.step (fun _ => rfl) (ev_neg (by simp [e]) (all_l0 n hn n 0 (by omega) (by omega)))
  exact ev_neg (by omega) (J _ (by simp; omega))
theorem all_no (n : Int) (h : n < 0 ∨ n > 7) : Ev (fun k => partition_All.f k n) [] := by
  have J : ∀ b : Bool, b = true → Ev (fun k => partition_All.j0 k n b) [] := fun b e => Ev.step (fun _ => rfl) (ev_pos e (ev_some _))
  by_cases h0 : n < 0
  · exact ev_pos h0 (J _ rfl)
  · exact ev_neg h0 (J _ (by simp; omega))

theorem refcount_l0 (l : List Int) (hn : l.length ≤ 4096) (hm : ∀ x ∈ l, 0 ≤ x ∧ x < 4096) : ∀ (d i : Nat) (n : Int), l.length - i = d → i ≤ l.length → Ev (fun k => semigroupref03_Count.l0 k n l (l.length : Int) (i : Int)) (cntF n (l.drop i)) := by
  intro d
  induction d with
  | zero =>
    intro i n hd hi
    refine Ev.step (fun _ => rfl) (ev_neg (by omega) (ev_eq (ev_some n) ?_))
    rw [List.drop_of_length_le (by omega)]
    rfl
  | succ d ih =>
    intro i n hd hi
    have hlt : i < l.length := by omega
    rw [List.drop_eq_getElem_cons hlt]
    have hx := hm l[i] (List.getElem_mem hlt)
    refine Ev.step (fun _ => rfl) (ev_pos (by omega) (ev_pos (by omega) (ev_pos (by omega) ?_)))
    rw [rd_at l i hlt, wrap_succ hlt (by omega), wrap_in (by omega) (by omega)]
    exact ih (i + 1) _ (by omega) (by omega)
theorem refcount_ev (l : List Int) (h : vld l = true) : Ev (fun k => semigroupref03_Count.f k l) (cnt l) := by
  have hv := vld_mem h
  exact refcount_l0 l hv.1 hv.2 _ 0 0 rfl (by omega)

theorem refall_l2 (n : Int) (rows : List (List Int)) (len : Int) (i j : Nat) (hi : i < 7) (p : List Int) (hv : vld p = true) (hp : p.length = i) (r : List (List Int)) : ∀ (d c : Nat) (x5 : List (List Int)), (cnt p + 1).toNat - c = d → x5.length + d ≤ 20000000 →
    Ev (fun k => semigroupref03_All.l1 k n (i : Int) (x5 ++ (List.range' c ((cnt p + 1).toNat - c)).map (fun c : Nat => p ++ [(c : Int)])) rows len (wrap64 ((j : Int) + 1))) r →
    Ev (fun k => semigroupref03_All.l2 k n (i : Int) x5 p (c : Int) rows len (j : Int)) r := by
  have hb := cnt_bounds hv
  have hce := refcount_ev p hv
  intro d
  induction d with
  | zero =>
    intro c x5 hd hx h
    rw [hd, List.range'_zero, List.map_nil, List.append_nil] at h
    exact Ev.step (fun _ => rfl) (ev_bind hce (ev_neg (by omega) h))
  | succ d ih =>
    intro c x5 hd hx h
    rw [range_split c _ _ (by omega)] at h
    refine Ev.step (fun _ => rfl) (ev_bind hce (ev_pos (by omega) (ev_bind0 rfl (ev_pos (by simp; omega) (ev_bind0 rfl (ev_pos (by simp; omega) (ev_pos (by omega) ?_)))))))
    rw [List.nil_append, show wrap64 ((c : Int) + 1) = ((c + 1 : Nat) : Int) from by unfold wrap64; omega]
    refine ih (c + 1) _ (by omega) (by simp only [List.length_append, List.length_cons, List.length_nil]; omega) ?_
    rw [List.append_assoc, List.singleton_append]
    exact h
theorem refall_l1 (n : Int) (rows : List (List Int)) (hr : rows.length ≤ 2097152) (i : Nat) (hi : i < 7) (hv : ∀ p ∈ rows, vld p = true ∧ p.length = i) (r : List (List Int)) : ∀ (d j : Nat) (x5 : List (List Int)), rows.length - j = d → j ≤ rows.length → x5.length ≤ 8 * j →
    Ev (fun k => semigroupref03_All.l0 k n (x5 ++ (rows.drop j).flatMap ext1) (wrap64 ((i : Int) + 1))) r →
    Ev (fun k => semigroupref03_All.l1 k n (i : Int) x5 rows (rows.length : Int) (j : Int)) r := by
  intro d
  induction d with
  | zero =>
    intro j x5 hd hj hx h
    rw [List.drop_eq_nil_of_le (by omega), List.flatMap_nil, List.append_nil] at h
    exact Ev.step (fun _ => rfl) (ev_neg (by omega) h)
  | succ d ih =>
    intro j x5 hd hj hx h
    have hjl : j < rows.length := by omega
    obtain ⟨h1, h2⟩ := hv _ (List.getElem_mem hjl)
    have hb := cnt_bounds h1
    have hel := ext1_len h1 (by omega)
    refine Ev.step (fun _ => rfl) (ev_pos (by omega) (ev_pos (by omega) (ev_pos (by omega) ?_)))
    rw [rdL_at rows j hjl]
    refine refall_l2 n rows _ i j hi rows[j] h1 h2 r _ 0 x5 rfl (by simp only [ext1, List.length_map, List.length_range] at hel; omega) ?_
    rw [wrap_succ hjl (by omega), Nat.sub_zero, ← List.range_eq_range']
    refine ih (j + 1) _ (by omega) (by omega) (by rw [List.length_append]; simp only [ext1] at hel; omega) ?_
    rw [List.drop_eq_getElem_cons hjl, List.flatMap_cons] at h
    rw [List.append_assoc]
    exact h
theorem refall_ev (n : Nat) (hn : n ≤ 7) : Ev (fun k => semigroupref03_All.f k (n : Int)) (allL n) := by
  have key : ∀ (d i : Nat), n - i = d → i ≤ n → Ev (fun k => semigroupref03_All.l0 k (n : Int) (allL i) (i : Int)) (allL n) := by
    intro d
    induction d with
    | zero =>
      intro i hd hi
      rw [show i = n from by omega]
      exact Ev.step (fun _ => rfl) (ev_neg (by omega) (ev_some _))
    | succ d ih =>
      intro i hd hi
      refine Ev.step (fun _ => rfl) (ev_pos (by omega) (refall_l1 (n : Int) (allL i) (allL_small i (by omega)) i (by omega) (fun p hp => (mem_allL i (by omega) p).1 hp) (allL n) _ 0 [] rfl (by omega) (by simp) ?_))
      rw [List.nil_append, List.drop_zero, show wrap64 ((i : Int) + 1) = ((i + 1 : Nat) : Int) from by unfold wrap64; omega]
      exact ih (i + 1) (by omega) (by omega)
  exact key n 0 (by omega) (by omega)

theorem samerows_l0 (a b : List (List Int)) (hab : a.length = b.length) (hn : a.length ≤ 140737488355328) (hl : ∀ x ∈ a, x.length ≤ 140737488355328) : ∀ (d i : Nat), a.length - i = d → i ≤ a.length → a.take i = b.take i →
    Ev (fun k => semigroupref03_SameRows.l0 k a b (a.length : Int) (i : Int)) (decide (a = b)) := by
  intro d
  induction d with
  | zero =>
    intro i hd hi ht
    refine Ev.step (fun _ => rfl) (ev_neg (by omega) (ev_eq (ev_some true) ?_))
    have h1 : a.take i = a := List.take_of_length_le (by omega)
    have h2 : b.take i = b := List.take_of_length_le (by omega)
    rw [h1, h2] at ht
    simp [ht]
  | succ d ih =>
    intro i hd hi ht
    have hlt : i < a.length := by omega
    refine Ev.step (fun _ => rfl) (ev_pos (by omega) (ev_pos (by omega) (ev_pos (by omega) (ev_pos (by omega) ?_))))
    rw [rdL_at a i hlt, rdL_at b i (by omega)]
    refine ev_bind (same_ev _ _ (hl _ (List.getElem_mem hlt))) ?_
    by_cases h : a[i] = b[i]
    · refine ev_pos (by simpa using h) ?_
      rw [wrap_succ hlt hn]
      exact ih (i + 1) (by omega) (by omega) (by rw [List.take_succ_eq_append_getElem hlt, List.take_succ_eq_append_getElem (by omega), ht, h])
    · refine ev_neg (by simpa using h) (ev_eq (ev_some false) ?_)
      symm
      rw [decide_eq_false_iff_not]
      rintro rfl
      exact h rfl
theorem samerows_ev (a b : List (List Int)) (hn : a.length ≤ 140737488355328) (hl : ∀ x ∈ a, x.length ≤ 140737488355328) : Ev (fun k => semigroupref03_SameRows.f k a b) (decide (a = b)) := by
  by_cases h : a.length = b.length
  · exact ev_pos (by omega) (samerows_l0 a b h hn hl _ 0 rfl (by omega) (by simp))
  · refine ev_neg (by omega) (ev_eq (ev_some false) ?_)
    symm
    rw [decide_eq_false_iff_not]
    rintro rfl
    exact h rfl

theorem PartitionAll : semigrouplaw03_PartitionAll.Pure := by
  intro n _
  have J1 : ∀ (l : List (List Int)) (b : Bool), l = [] → b = true → Ev (fun k => semigrouplaw03_PartitionAll.j0 k n l b) true := fun l b e1 e => Ev.step (fun _ => rfl) (ev_pos e (ev_pos (by rw [e1]; rfl) (ev_bind awake_ev (ev_some _))))
  by_cases h0 : n < 0
  · exact Ev.rounds (ev_bind (all_no n (.inl h0)) (ev_pos h0 (J1 _ _ rfl rfl)))
  by_cases h7 : n > 7
  · exact Ev.rounds (ev_bind (all_no n (.inr h7)) (ev_neg h0 (J1 _ _ rfl (by simp; omega))))
  obtain ⟨m, rfl⟩ : ∃ m : Nat, n = (m : Int) := ⟨n.toNat, by omega⟩
  have hs := allL_small m (by omega)
  have J2 : ∀ b : Bool, b = false → Ev (fun k => semigrouplaw03_PartitionAll.j0 k (m : Int) (allL m) b) true := fun b e =>
    Ev.step (fun _ => rfl) (ev_neg (by simp [e]) (ev_bind (refall_ev m (by omega)) (ev_bind (samerows_ev _ _ (by omega) (fun x hx => by have := (mem_allL m (by omega) x).1 hx; omega)) (ev_pos (by simp) (ev_bind awake_ev (ev_some _))))))
  exact Ev.rounds (ev_bind (all_ev m (by omega)) (ev_neg h0 (J2 _ (by simp; omega))))

end Go.Proofs.Ytjpghckijecdcaa.Pure
