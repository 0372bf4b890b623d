/- partition.Meet is the coarsest partition that refines both, and partition.Join the finest one that both refine (valid partitions of at most 60 points); no condition. -/
import Derived.Test.YtjpghckijecdcaaPPartitionExtremesx4
namespace Go.Proofs.Ytjpghckijecdcaa.Pure
open Go.RowKit Go.Proofs.Ytjpghckijecdcaa.PPartitionExtremes Go.Proofs.YtjpghckijecdcaaW.PrintWords Go.Proofs.YtjpghckijecdcaaW.PrintLast Go.Proofs.YtjpghckijecdcaaH
set_option linter.unusedVariables false
set_option linter.unusedSimpArgs false

theorem same_l0 (a b : List Int) (hab : a.length = b.length) (hn : a.length ≤ 140737488355328) : ∀ (d i : Nat), a.length - i = d → i ≤ a.length → a.take i = b.take i →
    Ev (fun k => semigroupref03_Same.l0 k a b (a.length : Int) (i : Int)) (decide (a = b)) := by
  intro d
  induction d with
  | zero =>
    intro i hd hi ht
    refine Ev.step (fun _ => rfl) (ev_neg (by omega) (ev_eq (ev_some true) ?_))
    have h1 : a.take i = a := List.take_of_length_le (by omega)
    have h2 : b.take i = b := List.take_of_length_le (by omega)
    rw [h1, h2] at ht
    simp [ht]
  | succ d ih =>
    intro i hd hi ht
    have hlt : i < a.length := by omega
    refine Ev.step (fun _ => rfl) (ev_pos (by omega) (ev_pos (by omega) (ev_pos (by omega) (ev_pos (by omega) ?_))))
    rw [rd_at a i hlt, rd_at b i (by omega)]
    by_cases h : a[i] = b[i]
    · refine ev_pos h ?_
      rw [wrap_succ hlt hn]
      exact ih (i + 1) (by omega) (by omega) (by rw [List.take_succ_eq_append_getElem hlt, List.take_succ_eq_append_getElem (by omega), ht, h])
    · refine ev_neg h (ev_eq (ev_some false) ?_)
      symm
      rw [decide_eq_false_iff_not]
      rintro rfl
      exact h rfl
theorem same_ev (a b : List Int) (hn : a.length ≤ 140737488355328) : Ev (fun k => semigroupref03_Same.f k a b) (decide (a = b)) := by
  by_cases h : a.length = b.length
  · exact ev_pos (by omega) (same_l0 a b h hn _ 0 rfl (by omega) (by simp))
  · refine ev_neg (by omega) (ev_eq (ev_some false) ?_)
    symm
    rw [decide_eq_false_iff_not]
    rintro rfl
    exact h rfl

theorem awake_ev : Ev (fun k => semigrouplaw03_awake.f k) true := by
  refine ev_bind0 (a := [0, 1, 0]) (by decide) (ev_bind (same_ev _ _ (by simp)) (ev_eq (ev_some _) (by simp)))

theorem valid_l0 (l : List Int) (hn : l.length ≤ 4096) : ∀ (d i n : Nat), l.length - i = d → i ≤ l.length → n ≤ i → Ev (fun k => partition_Valid.l0 k (n : Int) l (l.length : Int) (i : Int)) (rgs n (l.drop i)) := by
  intro d
  induction d with
  | zero =>
    intro i n hd hi hni
    refine Ev.step (fun _ => by simp only [partition_Valid.l0]; rfl) (ev_neg (by omega) (ev_eq (ev_some true) ?_))
    rw [List.drop_of_length_le (by omega)]
    rfl
  | succ d ih =>
    intro i n hd hi hni
    have hlt : i < l.length := by omega
    rw [List.drop_eq_getElem_cons hlt]
    refine Ev.step (fun _ => by simp only [partition_Valid.l0]; rfl) (ev_pos (by omega) (ev_pos (by omega) (ev_pos (by omega) ?_)))
    rw [rd_at l i hlt]
    by_cases h1 : l[i] < 0
    · refine ev_pos h1 (Ev.step (fun _ => by simp only [partition_Valid.j1]; rfl) (ev_pos (Eq.refl true) (ev_eq (ev_some false) ?_)))
      rw [rgs, if_pos (by omega)]
    · refine ev_neg h1 (Ev.step (fun _ => by simp only [partition_Valid.j1]; rfl) ?_)
      by_cases h2 : l[i] > (n : Int)
      · refine ev_pos (by simpa using h2) (ev_eq (ev_some false) ?_)
        rw [rgs, if_pos (by omega)]
      · refine ev_neg (by simpa using h2) ?_
        rw [rgs, if_neg (by omega), wrap_succ hlt (by omega)]
        by_cases h3 : l[i] = (n : Int)
        · refine ev_pos h3 ?_
          rw [wrap_succ (i := n) (n := 5000) (by omega) (by omega), if_pos h3]
          exact ih (i + 1) (n + 1) (by omega) (by omega) (by omega)
        · refine ev_neg h3 ?_
          rw [if_neg h3]
          exact ih (i + 1) n (by omega) (by omega) (by omega)
def vld (l : List Int) : Bool := decide (l.length ≤ 4096) && rgs 0 l
theorem valid_ev (l : List Int) : Ev (fun k => partition_Valid.f k l) (vld l) := by
  by_cases h : l.length ≤ 4096
  · exact ev_neg (by omega) (ev_eq (valid_l0 l h _ 0 0 rfl (by omega) (by omega)) (by simp [vld, h]))
  · exact ev_pos (by omega) (ev_eq (ev_some false) (by simp [vld, h]))

theorem rd_take (l : List Int) (i j : Nat) (h : j < i) : rd (l.take i) (j : Int) = rd l (j : Int) := by
  simp [rd, List.getD, List.getElem?_take, h]
theorem rd_snoc_lt (l : List Int) (x : Int) (j : Nat) (h : j < l.length) : rd (l ++ [x]) (j : Int) = rd l (j : Int) := by
  simp [rd, List.getD, List.getElem?_append_left h]
theorem rd_snoc_eq (l : List Int) (x : Int) : rd (l ++ [x]) (l.length : Int) = x := by simp [rd, List.getD]
def CanInv (l : List Int) (m : List (Int × Int)) (o : List Int) : Prop :=
  o.length = l.length ∧ (∀ j : Nat, j < l.length → mget m (rd l j) = some (rd o j)) ∧ (∀ x k, mget m x = some k → ∃ j : Nat, j < l.length ∧ rd l j = x) ∧
  (∀ x y k, mget m x = some k → mget m y = some k → x = y) ∧ (∀ x k, mget m x = some k → 0 ≤ k ∧ k < m.length)
theorem canInv_step {l : List Int} {m : List (Int × Int)} {o : List Int} (h : CanInv l m o) (x : Int) : CanInv (l ++ [x]) (canonStep (m, o) x).1 (canonStep (m, o) x).2 := by
  obtain ⟨h1, h2, h3, h4, h5⟩ := h
  cases hx : mget m x with
  | some k =>
    have e : canonStep (m, o) x = (m, o ++ [k]) := by simp [canonStep, hx]
    rw [e]
    refine ⟨by simp [h1], fun j hj => ?_, fun y k' hy => ?_, h4, h5⟩
    · by_cases hl : j < l.length
      · rw [rd_snoc_lt l x j hl, rd_snoc_lt o k j (by omega)]; exact h2 j hl
      · have : j = l.length := by simp at hj; omega
        subst this
        rw [rd_snoc_eq, ← h1, rd_snoc_eq]; exact hx
    · obtain ⟨j, hj, e⟩ := h3 y k' hy
      exact ⟨j, by simp; omega, by rw [rd_snoc_lt l x j hj]; exact e⟩
  | none =>
    have e : canonStep (m, o) x = (mput m x m.length, o ++ [(m.length : Int)]) := by simp [canonStep, hx]
    rw [e]
    have hlen : (mput m x (m.length : Int)).length = m.length + 1 := by rw [mput_length, hx]; rfl
    refine ⟨by simp [h1], fun j hj => ?_, fun y k' hy => ?_, fun y z k' hy hz => ?_, fun y k' hy => ?_⟩
    · by_cases hl : j < l.length
      · rw [rd_snoc_lt l x j hl, rd_snoc_lt o _ j (by omega)]
        have := h2 j hl
        rw [mget_put, if_neg (fun he => by rw [he, this] at hx; cases hx)]
        exact this
      · have : j = l.length := by simp at hj; omega
        subst this
        rw [rd_snoc_eq, ← h1, rd_snoc_eq, mget_put, if_pos rfl]
    · rw [mget_put] at hy
      split at hy
      · rename_i e; exact ⟨l.length, by simp, by rw [rd_snoc_eq]; exact e⟩
      · obtain ⟨j, hj, e⟩ := h3 y k' hy
        exact ⟨j, by simp; omega, by rw [rd_snoc_lt l x j hj]; exact e⟩
    · rw [mget_put] at hy hz
      split at hy
      · rename_i ey
        split at hz
        · rename_i ez; exact ey.symm.trans ez
        · injection hy with hy; have := h5 z k' hz; omega
      · split at hz
        · injection hz with hz; have := h5 y k' hy; omega
        · exact h4 y z k' hy hz
    · show _ ∧ k' < (((mput m x (m.length : Int)).length : Nat) : Int)
      rw [mget_put] at hy
      split at hy
      · injection hy with hy; omega
      · have := h5 y k' hy; omega
theorem canInv_take (l : List Int) : ∀ i : Nat, i ≤ l.length → CanInv (l.take i) (canonL (l.take i)).1 (canonL (l.take i)).2
  | 0, _ => ⟨rfl, fun j hj => by simp at hj, fun x k h => by simp [canonL, mget_nil] at h, fun x y k h => by simp [canonL, mget_nil] at h, fun x k h => by simp [canonL, mget_nil] at h⟩
  | i + 1, h => by
    rw [take_snoc_rd l i (by omega), canonL_snoc]
    exact canInv_step (canInv_take l i (by omega)) _
theorem canInv (l : List Int) : CanInv l (canonL l).1 (canonL l).2 := by have := canInv_take l l.length (Nat.le_refl _); rwa [List.take_length] at this
/-- The numbering keeps what is equal. -/
theorem canon_ker (l : List Int) (i j : Nat) (hi : i < l.length) (hj : j < l.length) : rd (canonL l).2 i = rd (canonL l).2 j ↔ rd l i = rd l j := by
  obtain ⟨_, h2, _, h4, _⟩ := canInv l
  constructor
  · intro e
    exact h4 _ _ _ (h2 i hi) (by rw [h2 j hj, e])
  · intro e
    have h := h2 i hi
    rw [e, h2 j hj] at h
    exact (Option.some.inj h).symm
theorem canon_same_take (a b : List Int) (hl : a.length = b.length) (h : ∀ i j : Nat, i < a.length → j < a.length → (rd a i = rd a j ↔ rd b i = rd b j)) :
    ∀ i : Nat, i ≤ a.length → (canonL (a.take i)).2 = (canonL (b.take i)).2 ∧ (canonL (a.take i)).1.length = (canonL (b.take i)).1.length
  | 0, _ => ⟨rfl, rfl⟩
  | i + 1, hi => by
    obtain ⟨e1, e2⟩ := canon_same_take a b hl h i (by omega)
    obtain ⟨_, a2, a3, _, _⟩ := canInv_take a i (by omega)
    obtain ⟨_, b2, b3, _, _⟩ := canInv_take b i (by omega)
    have la : (a.take i).length = i := by simp; omega
    have lb : (b.take i).length = i := by simp; omega
    rw [take_snoc_rd a i (by omega), take_snoc_rd b i (by omega), canonL_snoc, canonL_snoc]
    unfold canonStep
    cases ha : mget (canonL (a.take i)).1 (rd a i) with
    | some k =>
      obtain ⟨j, hj, e⟩ := a3 _ _ ha
      rw [la] at hj
      rw [rd_take a i j hj] at e
      have eb := (h j i (by omega) (by omega)).1 e
      have h1 := a2 j (by omega)
      have h2 := b2 j (by omega)
      rw [rd_take a i j hj, e, ha] at h1
      rw [rd_take b i j hj, eb, ← e1, ← Option.some.inj h1] at h2
      rw [h2]
      exact ⟨by simp [e1], e2⟩
    | none =>
      cases hb : mget (canonL (b.take i)).1 (rd b i) with
      | some k =>
        obtain ⟨j, hj, e⟩ := b3 _ _ hb
        rw [lb] at hj
        rw [rd_take b i j hj] at e
        have ea := (h j i (by omega) (by omega)).2 e
        have h1 := a2 j (by omega)
        rw [rd_take a i j hj, ea, ha] at h1
        cases h1
      | none => exact ⟨by simp [e1, e2], by simp [mput_length, ha, hb, e2]⟩
/-- Lists whose equal places are the same have the same numbering. -/
theorem canon_same (a b : List Int) (hl : a.length = b.length) (h : ∀ i j : Nat, i < a.length → j < a.length → (rd a i = rd a j ↔ rd b i = rd b j)) : (canonL a).2 = (canonL b).2 := by
  have h1 := (canon_same_take a b hl h a.length (Nat.le_refl _)).1
  rwa [List.take_length, hl, List.take_length] at h1
theorem vld_canon {l : List Int} (h : vld l = true) : (canonL l).2 = l := by
  simp only [vld, Bool.and_eq_true, decide_eq_true_eq] at h
  exact (canon_id l).2 h.2
theorem canon_vld (l : List Int) (h : l.length ≤ 4096) : vld (canonL l).2 = true := by
  simp [vld, canonL_len, h, rgs_canon]
/-- Two valid lists of one length whose equal places are the same. -/
theorem vld_ext {a b : List Int} (ha : vld a = true) (hb : vld b = true) (hl : a.length = b.length) (h : ∀ i j : Nat, i < a.length → j < a.length → (rd a i = rd a j ↔ rd b i = rd b j)) : a = b := by
  rw [← vld_canon ha, ← vld_canon hb]
  exact canon_same a b hl h
theorem vld_le {l : List Int} (h : vld l = true) : l.length ≤ 4096 := by
  simp only [vld, Bool.and_eq_true, decide_eq_true_eq] at h; exact h.1
theorem rgs_rd : ∀ (l : List Int) (n : Nat), rgs n l = true → ∀ j : Nat, j < l.length → 0 ≤ rd l j ∧ rd l j < n + l.length
  | [], _, _, j, hj => by simp at hj
  | x :: l, n, h, j, hj => by
    unfold rgs at h
    split at h
    · cases h
    · rename_i hx
      cases j with
      | zero => simp [rd]; omega
      | succ j =>
        have := rgs_rd l _ h j (by simpa using hj)
        have e : rd (x :: l) ((j + 1 : Nat) : Int) = rd l (j : Int) := by simp only [rd, Int.toNat_natCast, List.getD_cons_succ]
        rw [e]
        simp only [List.length_cons]
        split at this <;> omega
theorem vld_rd {l : List Int} (h : vld l = true) (j : Nat) (hj : j < l.length) : 0 ≤ rd l j ∧ rd l j < l.length := by
  simp only [vld, Bool.and_eq_true, decide_eq_true_eq] at h
  have := rgs_rd l 0 h.2 j hj
  omega

def bothB (p q : List Int) : Bool := decide (p.length = q.length) && vld p && vld q
theorem both_ev (p q : List Int) : Ev (fun k => partition_both.f k p q) (bothB p q) := by
  by_cases h : p.length = q.length
  · refine ev_pos (by omega) (ev_bind (valid_ev p) ?_)
    by_cases hp : vld p = true
    · exact ev_pos hp (ev_bind (valid_ev q) (ev_eq (ev_some _) (by simp [bothB, h, hp])))
    · exact ev_neg hp (ev_eq (ev_some false) (by simp [bothB, hp]))
  · exact ev_neg (by omega) (ev_eq (ev_some false) (by simp [bothB, h]))

/-- Going up from x one comes to the root r, in k steps. -/
inductive Rt (f : List Int) : Nat → Nat → Nat → Prop
  | root {x : Nat} (hx : x < f.length) (he : rd f x = (x : Int)) : Rt f x x 0
  | step {x y r k : Nat} (hx : x < f.length) (he : rd f x = (y : Int)) (hne : y ≠ x) (h : Rt f y r k) : Rt f x r (k + 1)
theorem Rt.lt {f : List Int} {x r k : Nat} (h : Rt f x r k) : x < f.length := by cases h <;> assumption
theorem Rt.end_ {f : List Int} {x r k : Nat} (h : Rt f x r k) : r < f.length ∧ rd f r = (r : Int) := by
  induction h with
  | root hx he => exact ⟨hx, he⟩
  | step _ _ _ _ ih => exact ih
theorem Rt.same {f : List Int} {x r k r' k' : Nat} (h : Rt f x r k) (h' : Rt f x r' k') : r = r' ∧ k = k' := by
  induction h generalizing r' k' with
  | root hx he =>
    cases h' with
    | root => exact ⟨rfl, rfl⟩
    | step _ he' hne _ => rw [he] at he'; exact absurd (Int.ofNat.inj he').symm hne
  | step hx he hne h ih =>
    cases h' with
    | root _ he' => rw [he] at he'; exact absurd (Int.ofNat.inj he') hne
    | step _ he' _ h' =>
      rw [he] at he'
      have := Int.ofNat.inj he'
      subst this
      obtain ⟨e1, e2⟩ := ih h'
      exact ⟨e1, by rw [e2]⟩
theorem rd_set_eq (f : List Int) (x : Nat) (v : Int) (hx : x < f.length) : rd (f.set x v) (x : Int) = v := by
  simp [rd, List.getD, hx]
theorem rd_set_ne (f : List Int) (x y : Nat) (v : Int) (h : x ≠ y) : rd (f.set x v) (y : Int) = rd f (y : Int) := by
  simp [rd, List.getD, List.getElem?_set_ne h]
/-- One step of the halving: all roots stay, no way grows. -/
theorem halve {f : List Int} {x y z : Nat} (hx : x < f.length) (hy : rd f x = (y : Int)) (hne : y ≠ x) (hz : rd f y = (z : Int)) :
    ∀ (k u r : Nat), Rt f u r k → ∃ k', k' ≤ k ∧ Rt (f.set x z) u r k' ∧ (u = x → 1 ≤ k') := by
  intro k
  induction k using Nat.strongRecOn with
  | ind k ih =>
    intro u r h
    cases h with
    | root hu he =>
      have hux : x ≠ u := by
        rintro rfl
        rw [hy] at he
        exact hne (Int.ofNat.inj he)
      exact ⟨0, Nat.le_refl _, .root (by simpa using hu) (by rw [rd_set_ne f x u _ hux]; exact he), fun e => absurd e.symm hux⟩
    | @step _ v _ k hu he hnv h =>
      by_cases hux : u = x
      · subst hux
        rw [hy] at he
        have hv := Int.ofNat.inj he
        subst hv
        cases h with
        | root hv' he' =>
          rw [hz] at he'
          have := Int.ofNat.inj he'
          subst this
          refine ⟨1, by omega, .step (by simpa using hx) (rd_set_eq f u _ hx) hne (.root (by simpa using hv') (by rw [rd_set_ne f u z _ (Ne.symm hne)]; exact hz)), fun _ => Nat.le_refl _⟩
        | @step _ t _ k hv' he' hnt h2 =>
          rw [hz] at he'
          have := Int.ofNat.inj he'
          subst this
          have hzu : z ≠ u := by
            rintro rfl
            have h3 : Rt f z r (k + 1 + 1) := .step hu hy hne (.step hv' hz hnt h2)
            have := (h3.same h2).2
            omega
          obtain ⟨k', hk', h4, _⟩ := ih k (by omega) z r h2
          exact ⟨k' + 1, by omega, .step (by simpa using hx) (rd_set_eq f u _ hx) hzu h4, fun _ => by omega⟩
      · obtain ⟨k', hk', h4, _⟩ := ih k (by omega) v r h
        exact ⟨k' + 1, by omega, .step (by simpa using hu) (by rw [rd_set_ne f x u _ (Ne.symm hux)]; exact he) hnv h4, fun e => absurd e hux⟩
/-- f is a forest whose roots are told by R. -/
def UF (f : List Int) (n : Nat) (R : Nat → Nat) : Prop := f.length = n ∧ ∀ x, x < n → ∃ k, Rt f x (R x) k
theorem UF.lt {f : List Int} {n : Nat} {R : Nat → Nat} (h : UF f n R) (x : Nat) (hx : x < n) : R x < n := by
  obtain ⟨k, hk⟩ := h.2 x hx
  rw [← h.1]; exact hk.end_.1
theorem find_ev (n : Nat) (R : Nat → Nat) : ∀ (k x : Nat) (f : List Int), UF f n R → Rt f x (R x) k → ∃ f', UF f' n R ∧ Ev (fun j => partition_forest_find.l0 j f (x : Int)) ((R x : Int), f') := by
  intro k
  induction k using Nat.strongRecOn with
  | ind k ih =>
    intro x f hf h
    have hx := h.lt
    rcases Nat.eq_zero_or_pos k with hk | hk
    · subst hk
      have e : R x = x ∧ rd f x = (x : Int) := by
        generalize hr : R x = r at h
        cases h with
        | root _ he => exact ⟨rfl, he⟩
      refine ⟨f, hf, Ev.step (fun _ => rfl) (ev_pos (by omega) (ev_pos (by omega) (ev_pos e.2 (ev_eq (ev_some _) (by rw [e.1])))))⟩
    · obtain ⟨y, k', hy, hne, h2, hk'⟩ : ∃ (y k' : Nat), rd f x = (y : Int) ∧ y ≠ x ∧ Rt f y (R x) k' ∧ k = k' + 1 := by
        generalize hr : R x = r at h ⊢
        cases h with
        | root => omega
        | step _ he hn h => exact ⟨_, _, he, hn, h, rfl⟩
      have hyl := h2.lt
      obtain ⟨z, hz, hzl, kz, hz3, hz4⟩ : ∃ z : Nat, rd f y = (z : Int) ∧ z < f.length ∧ ∃ kz, Rt f z (R x) kz ∧ kz < k := by
        generalize hr : R x = r at h2 ⊢
        cases h2 with
        | root _ he => exact ⟨_, he, hyl, 0, .root hyl he, hk⟩
        | step _ he hn h => exact ⟨_, he, h.lt, _, h, by omega⟩
      have hset : UF (f.set x z) n R := ⟨by rw [List.length_set]; exact hf.1, fun u hu => by
        obtain ⟨ku, h5⟩ := hf.2 u hu
        obtain ⟨k'', _, h6, _⟩ := halve hx hy hne hz ku u _ h5
        exact ⟨k'', h6⟩⟩
      obtain ⟨kz', hkz, hz5, _⟩ := halve hx hy hne hz kz z _ hz3
      have hRz : R z = R x := by
        obtain ⟨kk, h7⟩ := hset.2 z (by rw [← hf.1]; exact hzl)
        exact (h7.same hz5).1
      obtain ⟨f', hf', hev⟩ := ih kz' (by omega) z (f.set x z) hset (by rw [hRz]; exact hz5)
      refine ⟨f', hf', Ev.step (fun _ => rfl) (ev_pos (by omega) (ev_pos (by omega) (ev_neg (by rw [hy]; intro e; exact hne (Int.ofNat.inj e)) (ev_pos (by rw [hy]; omega) (ev_pos (by rw [hy]; omega) (ev_bind0 rfl ?_))))))⟩
      have e1 : rd f (rd f (x : Int)) = (z : Int) := by rw [hy, hz]
      have e2 : rd (f.set (x : Int).toNat (rd f (rd f (x : Int)))) (x : Int) = (z : Int) := by rw [e1, Int.toNat_natCast, rd_set_eq f x _ hx]
      rw [e2, e1, Int.toNat_natCast, ← hRz]
      exact hev
theorem find_ev' {n : Nat} {R : Nat → Nat} {f : List Int} (hf : UF f n R) (x : Nat) (hx : x < n) : ∃ f', UF f' n R ∧ Ev (fun j => partition_forest_find.f j f (x : Int)) ((R x : Int), f') := by
  obtain ⟨k, h⟩ := hf.2 x hx
  exact find_ev n R k x f hf h
/-- The classes of x and y become one. -/
def mrg {α : Type} [DecidableEq α] (R : Nat → α) (x y u : Nat) : α := if R u = R x then R y else R u
theorem union_ev {n : Nat} {R : Nat → Nat} {f : List Int} (hf : UF f n R) (x y : Nat) (hx : x < n) (hy : y < n) : ∃ f', UF f' n (mrg R x y) ∧ Ev (fun j => partition_forest_union.f j f (x : Int) (y : Int)) f' := by
  obtain ⟨f1, h1, e1⟩ := find_ev' hf x hx
  obtain ⟨f2, h2, e2⟩ := find_ev' h1 y hy
  refine ⟨f2.set (R x) (R y : Int), ?_, ?_⟩
  · refine ⟨by rw [List.length_set]; exact h2.1, fun u hu => ?_⟩
    obtain ⟨k, hk⟩ := h2.2 u hu
    obtain ⟨ky, hky⟩ := h2.2 y hy
    obtain ⟨kx, hkx⟩ := h2.2 x hx
    obtain ⟨hxl, hxe⟩ := hkx.end_
    obtain ⟨hyl, hye⟩ := hky.end_
    by_cases hxy : R x = R y
    · have hs : f2.set (R x) (R y : Int) = f2 := by
        apply List.ext_getElem?
        intro i
        rw [List.getElem?_set]
        split
        · rename_i e; subst e
          have : rd f2 (R x : Int) = f2[R x] := by simp [rd, List.getD, hxl]
          rw [List.getElem?_eq_getElem hxl, ← this, hxe, hxy]
        · rfl
      rw [hs]
      have hm : mrg R x y u = R u := by unfold mrg; split <;> simp_all
      rw [hm]
      exact ⟨k, hk⟩
    · have key : ∀ (k u r : Nat), Rt f2 u r k → ∃ k', Rt (f2.set (R x) (R y : Int)) u (if r = R x then R y else r) k' := by
        intro k
        induction k with
        | zero =>
          intro u r h
          cases h with
          | root hu he =>
            by_cases hr : u = R x
            · subst hr
              rw [if_pos rfl]
              exact ⟨1, .step (by simpa using hxl) (rd_set_eq f2 _ _ hxl) (Ne.symm hxy) (.root (by simpa using hyl) (by rw [rd_set_ne f2 _ _ _ hxy]; exact hye))⟩
            · rw [if_neg hr]
              exact ⟨0, .root (by simpa using hu) (by rw [rd_set_ne f2 _ _ _ (Ne.symm hr)]; exact he)⟩
        | succ k ih =>
          intro u r h
          cases h with
          | step hu he hn h =>
            obtain ⟨k', h'⟩ := ih _ _ h
            have hr : u ≠ R x := by
              rintro rfl
              rw [hxe] at he
              exact hn (Int.ofNat.inj he).symm
            exact ⟨k' + 1, .step (by simpa using hu) (by rw [rd_set_ne f2 _ _ _ (Ne.symm hr)]; exact he) hn h'⟩
      exact key k u _ hk
  · have hl := h1.lt x hx
    have hRx : ((R x : Nat) : Int) < (f.length : Int) := by rw [hf.1]; have := hf.lt x hx; omega
    refine ev_bind e1 (ev_bind e2 (ev_pos (by omega) (ev_pos hRx (ev_some _))))
theorem newForest_ev (n : Nat) (hn : n ≤ 4096) : ∃ f, UF f n (fun x => x) ∧ Ev (fun k => partition_newForest.f k (n : Int)) f := by
  have key : ∀ (d i : Nat) (l : List Int), n - i = d → i ≤ n → l.length = n → (∀ j : Nat, j < i → rd l j = (j : Int)) →
      ∃ f : List Int, f.length = n ∧ (∀ j : Nat, j < n → rd f j = (j : Int)) ∧ Ev (fun k => partition_newForest.l0 k l (n : Int) (i : Int)) f := by
    intro d
    induction d with
    | zero =>
      intro i l hd hi hl hj
      exact ⟨l, hl, fun j hjn => hj j (by omega), Ev.step (fun _ => rfl) (ev_neg (by omega) (ev_some _))⟩
    | succ d ih =>
      intro i l hd hi hl hj
      obtain ⟨f, h1, h2, h3⟩ := ih (i + 1) (l.set i (i : Int)) (by omega) (by omega) (by rw [List.length_set]; exact hl) (fun j hjn => by
        by_cases e : i = j
        · subst e; exact rd_set_eq l i _ (by omega)
        · rw [rd_set_ne l i j _ e]; exact hj j (by omega))
      refine ⟨f, h1, h2, Ev.step (fun _ => rfl) (ev_pos (by omega) (ev_pos (by omega) (ev_pos (by omega) ?_)))⟩
      rw [wrap_succ (n := n) (by omega) (by omega), Int.toNat_natCast]
      exact h3
  obtain ⟨f, h1, h2, h3⟩ := key n 0 (List.replicate n 0) (by omega) (by omega) (by simp) (fun j hj => by omega)
  refine ⟨f, ⟨h1, fun x hx => ⟨0, .root (by omega) (h2 x hx)⟩⟩, ev_pos (by omega) (ev_pos (by omega) (ev_bind0 rfl ?_))⟩
  rw [Int.toNat_natCast, List.length_replicate]
  exact h3
theorem fpart_ev {n : Nat} {R : Nat → Nat} {f : List Int} (hf : UF f n R) (hn : n ≤ 4096) : ∃ (l f' : List Int), l.length = n ∧ (∀ j : Nat, j < n → rd l j = (R j : Int)) ∧ Ev (fun k => partition_forest_partition.f k f) ((canonL l).2, f') := by
  have key : ∀ (d i : Nat) (f l : List Int), n - i = d → i ≤ n → UF f n R → l.length = n → (∀ j : Nat, j < i → rd l j = (R j : Int)) →
      ∃ l' f' : List Int, l'.length = n ∧ (∀ j : Nat, j < n → rd l' j = (R j : Int)) ∧ Ev (fun k => partition_forest_partition.l0 k f l (n : Int) (i : Int)) ((canonL l').2, f') := by
    intro d
    induction d with
    | zero =>
      intro i f l hd hi hf hl hj
      refine ⟨l, f, hl, fun j hjn => hj j (by omega), Ev.step (fun _ => rfl) (ev_neg (by omega) (ev_bind0 (a := (canonL l).2) ?_ (ev_some _)))⟩
      unfold partition_Canonical.f
      rw [if_neg (by omega)]
    | succ d ih =>
      intro i f l hd hi hf hl hj
      obtain ⟨f1, hf1, e1⟩ := find_ev' hf i (by omega)
      obtain ⟨l', f', h1, h2, h3⟩ := ih (i + 1) f1 (l.set i (R i : Int)) (by omega) (by omega) hf1 (by rw [List.length_set]; exact hl) (fun j hjn => by
        by_cases e : i = j
        · subst e; exact rd_set_eq l i _ (by omega)
        · rw [rd_set_ne l i j _ e]; exact hj j (by omega))
      refine ⟨l', f', h1, h2, Ev.step (fun _ => rfl) (ev_pos (by omega) (ev_bind e1 (ev_pos (by omega) (ev_pos (by omega) ?_))))⟩
      show Ev (fun k => partition_forest_partition.l0 k f1 (l.set (i : Int).toNat (R i : Int)) (n : Int) (wrap64 ((i : Int) + 1))) _
      rw [wrap_succ (n := n) (by omega) (by omega), Int.toNat_natCast]
      exact h3
  have hfl := hf.1
  obtain ⟨l', f', h1, h2, h3⟩ := key n 0 f (List.replicate n 0) (by omega) (by omega) hf (by simp) (fun j hj => by omega)
  refine ⟨l', f', h1, h2, ev_pos (by omega) (ev_pos (by omega) (ev_bind0 rfl ?_))⟩
  rw [Int.toNat_natCast, List.length_replicate, hfl]
  exact h3

/-- The least equivalence of the numbers below n that contains B. -/
inductive EG (B : Nat → Nat → Prop) (n : Nat) : Nat → Nat → Prop
  | of {x y : Nat} (hx : x < n) (hy : y < n) (h : B x y) : EG B n x y
  | refl {x : Nat} (hx : x < n) : EG B n x x
  | symm {x y : Nat} (h : EG B n x y) : EG B n y x
  | trans {x y z : Nat} (h : EG B n x y) (h' : EG B n y z) : EG B n x z
theorem EG.lt {B : Nat → Nat → Prop} {n x y : Nat} (h : EG B n x y) : x < n ∧ y < n := by
  induction h with
  | of hx hy _ => exact ⟨hx, hy⟩
  | refl hx => exact ⟨hx, hx⟩
  | symm _ ih => exact ⟨ih.2, ih.1⟩
  | trans _ _ i1 i2 => exact ⟨i1.1, i2.2⟩
theorem EG.le {α : Type} {B : Nat → Nat → Prop} {n : Nat} {g : Nat → α} (hB : ∀ u v, u < n → v < n → B u v → g u = g v) {x y : Nat} (h : EG B n x y) : g x = g y := by
  induction h with
  | of hx hy h => exact hB _ _ hx hy h
  | refl _ => rfl
  | symm _ ih => exact ih.symm
  | trans _ _ i1 i2 => exact i1.trans i2
def Sub {α : Type} (g : Nat → α) (B : Nat → Nat → Prop) (n : Nat) : Prop := ∀ u v, u < n → v < n → g u = g v → EG B n u v
theorem mrg_keep {α : Type} [DecidableEq α] (g : Nat → α) (x y : Nat) {u v : Nat} (h : g u = g v) : mrg g x y u = mrg g x y v := by
  unfold mrg; rw [h]
theorem mrg_join {α : Type} [DecidableEq α] (g : Nat → α) (x y : Nat) : mrg g x y x = mrg g x y y := by
  unfold mrg; rw [if_pos rfl]; split <;> rfl
theorem mrg_sub {α : Type} [DecidableEq α] {g : Nat → α} {B : Nat → Nat → Prop} {n x y : Nat} (h : Sub g B n) (hx : x < n) (hy : y < n) (hB : EG B n x y) : Sub (mrg g x y) B n := by
  intro u v hu hv e
  unfold mrg at e
  split at e <;> split at e
  · rename_i h1 h2; exact h u v hu hv (h1.trans h2.symm)
  · rename_i h1 h2; exact .trans (h u x hu hx h1) (.trans hB (h y v hy hv e))
  · rename_i h1 h2; exact .trans (h u y hu hy e) (.trans (.symm hB) (h x v hx hv h2.symm))
  · exact h u v hu hv e

def JB (p q : List Int) (u v : Nat) : Prop := rd p u = rd p v ∨ rd q u = rd q v
/-- r is the numbering of the least equivalence that contains those of p and q. -/
def IsJoin (p q r : List Int) : Prop := r.length = p.length ∧ vld r = true ∧ ∀ u v : Nat, u < p.length → v < p.length → (rd r u = rd r v ↔ EG (JB p q) p.length u v)
theorem isJoin_same {p q r r' : List Int} (h : IsJoin p q r) (h' : IsJoin p q r') : r = r' :=
  vld_ext h.2.1 h'.2.1 (by rw [h.1, h'.1]) (fun i j hi hj => by rw [h.2.2 i j (by rw [← h.1]; exact hi) (by rw [← h.1]; exact hj), h'.2.2 i j (by rw [← h.1]; exact hi) (by rw [← h.1]; exact hj)])
theorem join_l1 (n : Nat) (hn : n ≤ 4096) (B : Nat → Nat → Prop) (c : List Int) (hc : c.length = n) (hB : ∀ u v : Nat, u < n → v < n → rd c u = rd c v → B u v) (rows : List (List Int)) (x23 x24 x25 : Int) (hx : wrap64 (x24 + 1) = x25) (K : (Nat → Nat) → Prop) (hK : ∀ R x y, K R → K (mrg R x y)) (Good : List Int → Prop)
    (hk : ∀ f R, UF f n R → Sub R B n → K R → (∀ u v : Nat, u < n → v < n → rd c u = rd c v → R u = R v) → ∃ r, Good r ∧ Ev (fun k => partition_Join.l0 k f rows x23 x25) r) :
    ∀ (d i : Nat) (f : List Int) (R : Nat → Nat) (m : AM Int Int), n - i = d → i ≤ n → UF f n R → Sub R B n → K R → (∀ j : Nat, j < i → m.has (rd c j) = true) →
      (∀ v, m.has v = true → ∃ j : Nat, j < i ∧ rd c j = v ∧ m.get v 0 = (j : Int)) → (∀ u v : Nat, u < i → v < i → rd c u = rd c v → R u = R v) →
      ∃ r, Good r ∧ Ev (fun k => partition_Join.l1 k f rows x23 x24 c (n : Int) (i : Int) m) r := by
  intro d
  induction d with
  | zero =>
    intro i f R m hd hi hf hs hKR h1 h2 h3
    obtain ⟨r, hg, hr⟩ := hk f R hf hs hKR (fun u v hu hv e => h3 u v (by omega) (by omega) e)
    refine ⟨r, hg, Ev.step (fun _ => rfl) (ev_neg (by omega) ?_)⟩
    rw [hx]
    exact hr
  | succ d ih =>
    intro i f R m hd hi hf hs hKR h1 h2 h3
    by_cases hh : m.has (rd c i) = true
    · obtain ⟨j, hj, ej, gj⟩ := h2 _ hh
      obtain ⟨f', hf', e'⟩ := union_ev hf i j (by omega) (by omega)
      obtain ⟨r, hg, hr⟩ := ih (i + 1) f' (mrg R i j) m (by omega) (by omega) hf' (mrg_sub hs (by omega) (by omega) (.of (by omega) (by omega) (hB i j (by omega) (by omega) ej.symm))) (hK _ _ _ hKR)
        (fun t ht => by by_cases e : t = i; (· rw [e]; exact hh); exact h1 t (by omega))
        (fun v hv => by obtain ⟨t, ht, a, b⟩ := h2 v hv; exact ⟨t, by omega, a, b⟩)
        (fun u v hu hv e => by
          have hi1 : ∀ t : Nat, t < i → rd c t = rd c i → mrg R i j t = mrg R i j i := fun t ht et => by
            rw [mrg_join]; exact mrg_keep R i j (h3 t j ht hj (et.trans ej.symm))
          by_cases hu2 : u = i
          · by_cases hv2 : v = i
            · rw [hu2, hv2]
            · rw [hu2] at e ⊢; exact (hi1 v (by omega) e.symm).symm
          · by_cases hv2 : v = i
            · rw [hv2] at e ⊢; exact hi1 u (by omega) e
            · exact mrg_keep R i j (h3 u v (by omega) (by omega) e))
      refine ⟨r, hg, Ev.step (fun _ => rfl) (ev_pos (by omega) (ev_pos (by omega) (ev_pos (by omega) (ev_pos hh (ev_bind (by rw [gj]; exact e') ?_)))))⟩
      rw [wrap_succ (n := n) (by omega) (by omega)]
      exact hr
    · obtain ⟨r, hg, hr⟩ := ih (i + 1) f R (m.put (rd c i) (i : Int)) (by omega) (by omega) hf hs hKR
        (fun t ht => by rw [AM.has_put]; by_cases e : t = i; (· simp [e]); simp [h1 t (by omega)])
        (fun v hv => by
          rw [AM.has_put] at hv
          rw [AM.get_put]
          by_cases e : rd c i = v
          · exact ⟨i, by omega, e, by rw [if_pos e]⟩
          · rw [if_neg e]
            obtain ⟨t, ht, a, b⟩ := h2 v (by simpa [e] using hv)
            exact ⟨t, by omega, a, b⟩)
        (fun u v hu hv e => by
          have no : ∀ t : Nat, t < i → rd c t ≠ rd c i := fun t ht et => hh (by rw [← et]; exact h1 t ht)
          by_cases hu2 : u = i
          · by_cases hv2 : v = i
            · rw [hu2, hv2]
            · rw [hu2] at e; exact absurd e.symm (no v (by omega))
          · by_cases hv2 : v = i
            · rw [hv2] at e; exact absurd e (no u (by omega))
            · exact h3 u v (by omega) (by omega) e)
      refine ⟨r, hg, Ev.step (fun _ => rfl) (ev_pos (by omega) (ev_pos (by omega) (ev_pos (by omega) (ev_neg hh ?_))))⟩
      rw [wrap_succ (n := n) (by omega) (by omega)]
      exact hr
theorem join_l0_end {f : List Int} {rows : List (List Int)} {x23 x24 : Int} {a : List Int × List Int} (h : ¬ x24 < x23) (e : Ev (fun k => partition_forest_partition.f k f) a) : Ev (fun k => partition_Join.l0 k f rows x23 x24) a.1 :=
  Ev.step (fun _ => rfl) (ev_neg h (ev_bind e (ev_some _)))
theorem join_l0_go {f : List Int} {rows : List (List Int)} {x23 x24 : Int} {r : List Int} (h : x24 < x23) (h0 : 0 ≤ x24) (h1 : x24 < (rows.length : Int)) (e : Ev (fun k => partition_Join.l1 k f rows x23 x24 (rd_L1 rows x24) ((rd_L1 rows x24).length : Int) 0 (AM.nil : AM Int Int)) r) : Ev (fun k => partition_Join.l0 k f rows x23 x24) r :=
  Ev.step (fun _ => rfl) (ev_pos h (ev_pos h0 (ev_pos h1 e)))
theorem join_ev {p q : List Int} (h : bothB p q = true) : ∃ r, IsJoin p q r ∧ Ev (fun k => partition_Join.f k p q) r := by
  simp only [bothB, Bool.and_eq_true, decide_eq_true_eq] at h
  obtain ⟨⟨hl, hp⟩, hq⟩ := h
  have hn := vld_le hp
  have hb : bothB p q = true := by simp [bothB, hl, hp, hq]
  obtain ⟨f0, hf0, e0⟩ := newForest_ev p.length hn
  have last : ∀ f R, UF f p.length R → Sub R (JB p q) p.length → (∀ u v : Nat, u < p.length → v < p.length → rd p u = rd p v → R u = R v) → (∀ u v : Nat, u < p.length → v < p.length → rd q u = rd q v → R u = R v) →
      ∃ r, IsJoin p q r ∧ Ev (fun k => partition_Join.l0 k f [p, q] (([p, q] : List (List Int)).length : Int) 2) r := by
    intro f R hf hs h1 h2
    obtain ⟨l, f', e1, e2, e3⟩ := fpart_ev hf hn
    refine ⟨(canonL l).2, ⟨by rw [canonL_len, e1], canon_vld l (by omega), fun u v hu hv => ?_⟩, join_l0_end (by simp) e3⟩
    rw [canon_ker l u v (by omega) (by omega), e2 u hu, e2 v hv]
    constructor
    · exact fun e => hs u v hu hv (Int.ofNat.inj e)
    · intro e
      have := EG.le (g := R) (fun a b ha hb hab => by rcases hab with hab | hab; (· exact h1 a b ha hb hab); exact h2 a b ha hb hab) e
      rw [this]
  have second : ∀ f R, UF f p.length R → Sub R (JB p q) p.length → (∀ u v : Nat, u < p.length → v < p.length → rd p u = rd p v → R u = R v) →
      ∃ r, IsJoin p q r ∧ Ev (fun k => partition_Join.l0 k f [p, q] (([p, q] : List (List Int)).length : Int) 1) r := by
    intro f R hf hs h1
    obtain ⟨r, hg, hr⟩ := join_l1 p.length hn (JB p q) q hl.symm (fun u v _ _ e => .inr e) [p, q] (([p, q] : List (List Int)).length : Int) 1 2 (by rw [wrap_in (by omega) (by omega)]; rfl) (fun R => ∀ u v : Nat, u < p.length → v < p.length → rd p u = rd p v → R u = R v) (fun R x y hR u v hu hv e => mrg_keep R x y (hR u v hu hv e)) (IsJoin p q)
      (fun f R hf hs hK h2 => last f R hf hs hK h2) p.length 0 f R AM.nil (by omega) (by omega) hf hs h1 (fun j hj => by omega) (fun v hv => by rw [AM.has_nil] at hv; cases hv) (fun u v hu _ _ => by omega)
    refine ⟨r, hg, join_l0_go (by simp) (by decide) (by simp) ?_⟩
    rw [hl] at hr
    exact hr
  obtain ⟨r, hg, hr⟩ := join_l1 p.length hn (JB p q) p rfl (fun u v _ _ e => .inl e) [p, q] (([p, q] : List (List Int)).length : Int) 0 1 (by rw [wrap_in (by omega) (by omega)]; rfl) (fun _ => True) (fun _ _ _ _ => trivial) (IsJoin p q)
    (fun f R hf hs _ h2 => second f R hf hs h2) p.length 0 f0 (fun x => x) AM.nil (by omega) (by omega) hf0 (fun u v hu hv e => by have e : u = v := e; subst e; exact .refl hu) trivial (fun j hj => by omega) (fun v hv => by rw [AM.has_nil] at hv; cases hv) (fun u v hu _ _ => by omega)
  refine ⟨r, hg, ev_bind (both_ev p q) (ev_pos hb (ev_bind e0 (ev_bind0 rfl (join_l0_go (by simp) (by decide) (by simp) hr))))⟩
theorem join_no {p q : List Int} (h : ¬ bothB p q = true) : Ev (fun k => partition_Join.f k p q) [] := ev_bind (both_ev p q) (ev_neg h (ev_some _))

def meetL (p q : List Int) (n : Nat) : List Int := (List.range n).map (fun i : Nat => rd p (i : Int) * 4096 + rd q (i : Int))
theorem meetL_rd (p q : List Int) (n i : Nat) (h : i < n) : rd (meetL p q n) (i : Int) = rd p i * 4096 + rd q i := by
  simp [meetL, rd, List.getD, h]
theorem meetL_length (p q : List Int) (n : Nat) : (meetL p q n).length = n := by simp [meetL]
/-- r is the numbering of the places at which p and q are equal. -/
def IsMeet (p q r : List Int) : Prop := r.length = p.length ∧ vld r = true ∧ ∀ u v : Nat, u < p.length → v < p.length → (rd r u = rd r v ↔ rd p u = rd p v ∧ rd q u = rd q v)
theorem isMeet_same {p q r r' : List Int} (h : IsMeet p q r) (h' : IsMeet p q r') : r = r' :=
  vld_ext h.2.1 h'.2.1 (by rw [h.1, h'.1]) (fun i j hi hj => by rw [h.2.2 i j (by rw [← h.1]; exact hi) (by rw [← h.1]; exact hj), h'.2.2 i j (by rw [← h.1]; exact hi) (by rw [← h.1]; exact hj)])
theorem isMeet_canon {p q : List Int} (hp : vld p = true) (hq : vld q = true) (hl : p.length = q.length) : IsMeet p q (canonL (meetL p q p.length)).2 := by
  have hn := vld_le hp
  refine ⟨by rw [canonL_len, meetL_length], canon_vld _ (by rw [meetL_length]; exact hn), fun u v hu hv => ?_⟩
  rw [canon_ker _ u v (by rw [meetL_length]; exact hu) (by rw [meetL_length]; exact hv), meetL_rd p q _ u hu, meetL_rd p q _ v hv]
  have a1 := vld_rd hq u (by omega)
  have a2 := vld_rd hq v (by omega)
  constructor
  · intro e; constructor <;> omega
  · rintro ⟨e1, e2⟩; rw [e1, e2]
theorem set_meet (p q t : List Int) (n i : Nat) (hi : i < n) (ht : t = (meetL p q n).take i ++ List.replicate (n - i) 0) : t.set i (rd p i * 4096 + rd q i) = (meetL p q n).take (i + 1) ++ List.replicate (n - (i + 1)) 0 := by
  subst ht
  have hl := meetL_length p q n
  have h1 : ((meetL p q n).take i).length = i := by rw [List.length_take]; omega
  obtain ⟨m, hm⟩ : ∃ m, n - i = m + 1 := ⟨n - i - 1, by omega⟩
  rw [hm, show n - (i + 1) = m from by omega, List.set_append, if_neg (by omega), h1, Nat.sub_self, List.replicate_succ, List.set_cons_zero, take_snoc_rd _ i (by omega), meetL_rd p q n i hi, List.append_assoc, List.singleton_append]
theorem meet_l0 {p q : List Int} (hp : vld p = true) (hq : vld q = true) (hl : p.length = q.length) : ∀ (d i : Nat) (t : List Int), p.length - i = d → i ≤ p.length → t = (meetL p q p.length).take i ++ List.replicate (p.length - i) 0 →
    Ev (fun k => partition_Meet.l0 k p q t (p.length : Int) (i : Int)) (canonL (meetL p q p.length)).2 := by
  have hn := vld_le hp
  have hm := meetL_length p q p.length
  intro d
  induction d with
  | zero =>
    intro i t hd hi ht
    have e : t = meetL p q p.length := by
      rw [ht, show i = p.length from by omega, Nat.sub_self, List.replicate_zero, List.append_nil, List.take_of_length_le (by omega)]
    subst e
    refine Ev.step (fun _ => rfl) (ev_neg (by omega) (ev_bind0 (a := (canonL (meetL p q p.length)).2) ?_ (ev_some _)))
    unfold partition_Canonical.f
    rw [if_neg (by omega)]
  | succ d ih =>
    intro i t hd hi ht
    have a1 := vld_rd hp i (by omega)
    have a2 := vld_rd hq i (by omega)
    have htl : t.length = p.length := by rw [ht, List.length_append, List.length_take, List.length_replicate]; omega
    refine Ev.step (fun _ => rfl) (ev_pos (by omega) (ev_pos (by omega) (ev_pos (by omega) (ev_pos (by omega) (ev_pos (by omega) ?_)))))
    rw [wrap_succ (n := p.length) (by omega) (by omega), Int.toNat_natCast, wrap_in (x := rd p i * 4096) (by omega) (by omega), wrap_in (by omega) (by omega)]
    exact ih (i + 1) _ (by omega) (by omega) (set_meet p q t p.length i (by omega) ht)
theorem meet_ev {p q : List Int} (h : bothB p q = true) : Ev (fun k => partition_Meet.f k p q) (canonL (meetL p q p.length)).2 := by
  have hb := h
  simp only [bothB, Bool.and_eq_true, decide_eq_true_eq] at h
  obtain ⟨⟨hl, hp⟩, hq⟩ := h
  have hn := vld_le hp
  refine ev_bind (both_ev p q) (ev_pos hb (ev_pos (by omega) (ev_pos (by omega) ?_)))
  rw [Int.toNat_natCast]
  exact meet_l0 hp hq hl p.length 0 _ (by omega) (by omega) (by simp)
theorem meet_no {p q : List Int} (h : ¬ bothB p q = true) : Ev (fun k => partition_Meet.f k p q) [] := ev_bind (both_ev p q) (ev_neg h (ev_some _))

section
variable {p q r : List Int}
theorem IsJoin.le1 (h : IsJoin p q r) {u v : Nat} (hu : u < p.length) (hv : v < p.length) (e : rd p u = rd p v) : rd r u = rd r v := (h.2.2 u v hu hv).2 (.of hu hv (.inl e))
theorem IsJoin.le2 (h : IsJoin p q r) {u v : Nat} (hu : u < p.length) (hv : v < p.length) (e : rd q u = rd q v) : rd r u = rd r v := (h.2.2 u v hu hv).2 (.of hu hv (.inr e))
theorem IsJoin.least {α : Type} {g : Nat → α} (h : IsJoin p q r) (h1 : ∀ u v : Nat, u < p.length → v < p.length → rd p u = rd p v → g u = g v) (h2 : ∀ u v : Nat, u < p.length → v < p.length → rd q u = rd q v → g u = g v)
    {u v : Nat} (hu : u < p.length) (hv : v < p.length) (e : rd r u = rd r v) : g u = g v :=
  EG.le (fun a b ha hb hab => by rcases hab with hab | hab; (· exact h1 a b ha hb hab); exact h2 a b ha hb hab) ((h.2.2 u v hu hv).1 e)
end
def pairB (p q : List Int) (m : Nat) : Bool := decide (p.length = q.length) && decide (p.length ≤ m) && vld p && vld q

theorem refvalid_ev (l : List Int) : Ev (fun k => semigroupref03_Valid.f k l) (vld l) := by
  by_cases h : l.length ≤ 4096
  · refine ev_pos (by omega) (ev_bind0 (a := (canonL l).2) (by rw [semigroupref03_Canonical.f, if_neg (by omega)]) (ev_bind (same_ev _ _ (by omega)) (ev_eq (ev_some _) ?_)))
    have hc := canon_id l
    have e : (decide (l = (canonL l).2)) = rgs 0 l := by
      rw [Bool.eq_iff_iff, ← hc, decide_eq_true_iff]
      exact eq_comm
    rw [e]
    simp [vld, h]
  · exact ev_neg (by omega) (ev_eq (ev_some false) (by simp [vld, h]))

theorem pair_ev (p q : List Int) : Ev (fun k => semigrouplaw03_pair.f k p q 60) (pairB p q 60) := by
  by_cases h : p.length = q.length
  · refine ev_pos (by omega) ?_
    by_cases h6 : p.length ≤ 60
    · refine ev_pos (by omega) (ev_bind (refvalid_ev p) ?_)
      by_cases hp : vld p = true
      · exact ev_pos hp (ev_bind (refvalid_ev q) (ev_eq (ev_some _) (by have h7 : q.length ≤ 60 := h ▸ h6; simp [pairB, h, hp, h7])))
      · exact ev_neg hp (ev_eq (ev_some false) (by simp [pairB, hp]))
    · exact ev_neg (by omega) (ev_eq (ev_some false) (by simp [pairB, h6]))
  · exact ev_neg (by omega) (ev_eq (ev_some false) (by simp [pairB, h]))
theorem pairB_iff {p q : List Int} : pairB p q 60 = true ↔ p.length = q.length ∧ p.length ≤ 60 ∧ vld p = true ∧ vld q = true := by
  simp [pairB, and_assoc]

theorem mx_l (a b : Int) : a ≤ mx a b := by unfold mx; split <;> omega
theorem mx_r (a b : Int) : b ≤ mx a b := by unfold mx; split <;> omega
theorem mx_le {a b c : Int} (h : a ≤ c) (h' : b ≤ c) : mx a b ≤ c := by unfold mx; split <;> omega
def cntF : Int → List Int → Int
  | n, [] => n
  | n, x :: l => cntF (mx n (x + 1)) l
theorem cntF_ge : ∀ (l : List Int) (n : Int), n ≤ cntF n l
  | [], _ => Int.le_refl _
  | x :: l, n => by
    have := cntF_ge l (mx n (x + 1))
    have := mx_l n (x + 1)
    unfold cntF
    omega
theorem cntF_mem : ∀ (l : List Int) (n : Int), ∀ x ∈ l, x < cntF n l
  | [], _, x, h => by simp at h
  | y :: l, n, x, h => by
    unfold cntF
    rcases List.mem_cons.1 h with rfl | h
    · have := cntF_ge l (mx n (x + 1))
      have := mx_r n (x + 1)
      omega
    · exact cntF_mem l _ x h
theorem cntF_le : ∀ (l : List Int) (n B : Int), n ≤ B → (∀ x ∈ l, x + 1 ≤ B) → cntF n l ≤ B
  | [], _, _, h, _ => h
  | y :: l, n, B, h, h2 => by
    unfold cntF
    exact cntF_le l _ B (mx_le h (h2 y (by simp))) (fun x hx => h2 x (by simp [hx]))
def cnt (l : List Int) : Int := cntF 0 l
theorem rgs_mem : ∀ (l : List Int) (n : Nat), rgs n l = true → ∀ x ∈ l, 0 ≤ x ∧ x < n + l.length
  | [], _, _, x, h => by simp at h
  | y :: l, n, hr, x, h => by
    unfold rgs at hr
    split at hr
    · cases hr
    · rename_i hy
      rcases List.mem_cons.1 h with rfl | h
      · simp only [List.length_cons]; omega
      · have := rgs_mem l _ hr x h
        simp only [List.length_cons]
        split at this <;> omega
theorem vld_mem {l : List Int} (h : vld l = true) : l.length ≤ 4096 ∧ ∀ x ∈ l, 0 ≤ x ∧ x < 4096 := by
  unfold vld at h
  simp only [Bool.and_eq_true, decide_eq_true_eq] at h
  refine ⟨h.1, fun x hx => ?_⟩
  have := rgs_mem l 0 h.2 x hx
  omega
theorem cnt_bounds {l : List Int} (h : vld l = true) : 0 ≤ cnt l ∧ cnt l ≤ 4096 ∧ ∀ x ∈ l, x < cnt l :=
  ⟨cntF_ge l 0, cntF_le l 0 4096 (by omega) (fun x hx => by have := (vld_mem h).2 x hx; omega), cntF_mem l 0⟩

theorem count_l0 (l : List Int) (hn : l.length ≤ 4096) (hm : ∀ x ∈ l, 0 ≤ x ∧ x < 4096) : ∀ (d i : Nat) (n : Int), l.length - i = d → i ≤ l.length → Ev (fun k => partition_Count.l0 k n l (l.length : Int) (i : Int)) (cntF n (l.drop i)) := by
  intro d
  induction d with
  | zero =>
    intro i n hd hi
    refine Ev.step (fun _ => rfl) (ev_neg (by omega) (ev_eq (ev_some n) ?_))
    rw [List.drop_of_length_le (by omega)]
    rfl
  | succ d ih =>
    intro i n hd hi
    have hlt : i < l.length := by omega
    rw [List.drop_eq_getElem_cons hlt]
    have hx := hm l[i] (List.getElem_mem hlt)
    refine Ev.step (fun _ => rfl) (ev_pos (by omega) (ev_pos (by omega) (ev_pos (by omega) ?_)))
    rw [rd_at l i hlt, wrap_succ hlt (by omega), wrap_in (by omega) (by omega)]
    exact ih (i + 1) _ (by omega) (by omega)
theorem count_ev (l : List Int) : Ev (fun k => partition_Count.f k l) (if vld l = true then cnt l else 0) := by
  refine ev_bind (valid_ev l) ?_
  by_cases h : vld l = true
  · have hv := vld_mem h
    simp only [h, if_true]
    exact count_l0 l hv.1 hv.2 _ 0 0 rfl (by omega)
  · simp only [h, Bool.false_eq_true, if_false]
    exact ev_some 0

theorem rd_mem (l : List Int) (i : Nat) (h : i < l.length) : rd l (i : Int) ∈ l := by rw [rd_at l i h]; exact List.getElem_mem h
theorem rd_set (l : List Int) (x y : Int) (v : Int) (hx : 0 ≤ x) (hy : 0 ≤ y) (hl : x < l.length) : rd (l.set x.toNat v) y = if x = y then v else rd l y := by
  obtain ⟨a, rfl⟩ := Int.eq_ofNat_of_zero_le hx
  obtain ⟨b, rfl⟩ := Int.eq_ofNat_of_zero_le hy
  simp only [Int.toNat_natCast, rd, List.getD_eq_getElem?_getD, List.getElem?_set]
  by_cases h : a = b
  · subst h
    have hl' : a < l.length := by omega
    simp [hl']
  · have h' : ¬ ((a : Int) = (b : Int)) := by omega
    rw [if_neg h, if_neg h']

/-- Points of one class of p are of one class of q. -/
def Compat (p q : List Int) : Prop := ∀ i j : Nat, i < p.length → j < p.length → rd p i = rd p j → rd q i = rd q j
theorem refines_l1 (p q : List Int) (hn : p.length ≤ 4096) (hpq : p.length = q.length) (c : Nat) (hp : ∀ x ∈ p, 0 ≤ x ∧ x < c) (hq : ∀ x ∈ q, 0 ≤ x) : ∀ (d i : Nat) (t : List Int), p.length - i = d → i ≤ p.length → t.length = c →
    (∀ x : Int, 0 ≤ x → x < c → rd t x < 0 → ∀ j : Nat, j < i → rd p j ≠ x) → (∀ x : Int, 0 ≤ x → x < c → 0 ≤ rd t x → ∃ j : Nat, j < i ∧ rd p j = x ∧ rd q j = rd t x) → (∀ j : Nat, j < i → rd t (rd p j) = rd q j) →
    ∃ r : Bool, Ev (fun k => partition_Refines.l1 k q t p (p.length : Int) (i : Int)) r ∧ (r = true ↔ Compat p q) := by
  intro d
  induction d with
  | zero =>
    intro i t hd hi ht h1 h2 h3
    refine ⟨true, Ev.step (fun _ => rfl) (ev_neg (by omega) (ev_some true)), fun _ => ?_, fun _ => rfl⟩
    intro a b ha hb e
    rw [← h3 a (by omega), ← h3 b (by omega), e]
  | succ d ih =>
    intro i t hd hi ht h1 h2 h3
    have hlt : i < p.length := by omega
    have hx := hp _ (rd_mem p i hlt)
    have hy := hq _ (rd_mem q i (by omega))
    by_cases hneg : rd t (rd p i) < 0
    · obtain ⟨r, hr, he⟩ := ih (i + 1) (t.set (rd p i).toNat (rd q i)) (by omega) (by omega) (by rw [List.length_set, ht])
        (fun x hx0 hxc hlt0 j hj => by
          rw [rd_set _ _ _ _ hx.1 hx0 (by omega)] at hlt0
          split at hlt0
          · omega
          · rcases Nat.lt_succ_iff_lt_or_eq.1 hj with hj | rfl
            · exact h1 x hx0 hxc hlt0 j hj
            · assumption)
        (fun x hx0 hxc hge => by
          rw [rd_set _ _ _ _ hx.1 hx0 (by omega)] at hge ⊢
          split
          · exact ⟨i, by omega, by assumption, rfl⟩
          · rename_i hne
            rw [if_neg hne] at hge
            obtain ⟨j, hj, e1, e2⟩ := h2 x hx0 hxc hge
            exact ⟨j, by omega, e1, e2⟩)
        (fun j hj => by
          rcases Nat.lt_succ_iff_lt_or_eq.1 hj with hj | rfl
          · have hxj := hp _ (rd_mem p j (by omega))
            rw [rd_set _ _ _ _ hx.1 hxj.1 (by omega), if_neg (fun e => h1 _ hx.1 hx.2 hneg j hj e.symm)]
            exact h3 j hj
          · rw [rd_set _ _ _ _ hx.1 hx.1 (by omega), if_pos rfl])
      refine ⟨r, Ev.step (fun _ => rfl) (ev_pos (by omega) (ev_pos (by omega) (ev_pos (by omega) (ev_pos hx.1 (ev_pos (by omega) (ev_pos hneg (ev_pos (by omega) ?_))))))), he⟩
      refine ev_bind0 rfl (ev_pos (by rw [rd_set _ _ _ _ hx.1 hx.1 (by omega), if_pos rfl]) ?_)
      rw [wrap_succ hlt (by omega)]
      exact hr
    · by_cases hc : rd t (rd p i) = rd q i
      · obtain ⟨r, hr, he⟩ := ih (i + 1) t (by omega) (by omega) ht
          (fun x hx0 hxc hlt0 j hj => by
            rcases Nat.lt_succ_iff_lt_or_eq.1 hj with hj | rfl
            · exact h1 x hx0 hxc hlt0 j hj
            · rintro rfl; exact hneg hlt0)
          (fun x hx0 hxc hge => by obtain ⟨j, hj, e⟩ := h2 x hx0 hxc hge; exact ⟨j, by omega, e⟩)
          (fun j hj => by
            rcases Nat.lt_succ_iff_lt_or_eq.1 hj with hj | rfl
            · exact h3 j hj
            · exact hc)
        refine ⟨r, Ev.step (fun _ => rfl) (ev_pos (by omega) (ev_pos (by omega) (ev_pos (by omega) (ev_pos hx.1 (ev_pos (by omega) (ev_neg hneg (ev_pos (by omega) (ev_pos hc ?_)))))))), he⟩
        rw [wrap_succ hlt (by omega)]
        exact hr
      · refine ⟨false, Ev.step (fun _ => rfl) (ev_pos (by omega) (ev_pos (by omega) (ev_pos (by omega) (ev_pos hx.1 (ev_pos (by omega) (ev_neg hneg (ev_pos (by omega) (ev_neg hc (ev_some false))))))))), ?_⟩
        obtain ⟨j, hj, e1, e2⟩ := h2 _ hx.1 hx.2 (by omega)
        simp only [Bool.false_eq_true, false_iff]
        intro hcm
        exact hc (by rw [← e2]; exact hcm j i (by omega) hlt e1)
theorem refines_l0 (p q : List Int) (c : Nat) (hc : c ≤ 4096) (r : Bool) (h : Ev (fun k => partition_Refines.l1 k q (List.replicate c (-1)) p (p.length : Int) 0) r) : ∀ (d i : Nat) (t : List Int), c - i = d → i ≤ c → t.length = c → (∀ j, j < i → t[j]? = some (-1)) →
    Ev (fun k => partition_Refines.l0 k p q t (c : Int) (i : Int)) r := by
  intro d
  induction d with
  | zero =>
    intro i t hd hi ht h1
    have e : t = List.replicate c (-1) := by
      apply List.ext_getElem?
      intro j
      by_cases hj : j < c
      · rw [h1 j (by omega)]; simp [hj]
      · rw [List.getElem?_eq_none (by omega), List.getElem?_eq_none (by simp; omega)]
    subst e
    exact Ev.step (fun _ => rfl) (ev_neg (by omega) h)
  | succ d ih =>
    intro i t hd hi ht h1
    refine Ev.step (fun _ => rfl) (ev_pos (by omega) (ev_pos (by omega) (ev_pos (by omega) ?_)))
    rw [wrap_succ (n := c) (by omega) (by omega)]
    refine ih (i + 1) _ (by omega) (by omega) (by rw [List.length_set, ht]) (fun j hj => ?_)
    rw [Int.toNat_natCast, List.getElem?_set]
    by_cases hij : i = j
    · subst hij; simp; omega
    · rw [if_neg hij]; exact h1 j (by omega)
theorem refines_ev (p q : List Int) : ∃ r : Bool, Ev (fun k => partition_Refines.f k p q) r ∧ (r = true ↔ bothB p q = true ∧ Compat p q) := by
  by_cases hb : bothB p q = true
  · have hb' := hb
    simp only [bothB, Bool.and_eq_true, decide_eq_true_eq] at hb'
    obtain ⟨⟨hl, hp⟩, hq⟩ := hb'
    have vp := vld_mem hp
    have vq := vld_mem hq
    have hc := cnt_bounds hp
    have he := count_ev p
    simp only [hp, if_true] at he
    obtain ⟨r, hr, hi⟩ := refines_l1 p q vp.1 hl (cnt p).toNat (fun x hx => ⟨(vp.2 x hx).1, by have := hc.2.2 x hx; omega⟩) (fun x hx => (vq.2 x hx).1) _ 0 (List.replicate (cnt p).toNat (-1)) rfl (by omega) (by simp)
      (fun _ _ _ _ j hj => by omega) (fun x h0 hx hge => by
        obtain ⟨a, rfl⟩ := Int.eq_ofNat_of_zero_le h0
        rw [rd_at _ _ (by simp; omega)] at hge
        simp at hge) (fun j hj => by omega)
    refine ⟨r, ev_bind (both_ev p q) (ev_pos hb (ev_bind he (ev_pos (by omega) (ev_pos (by omega) (ev_bind0 rfl ?_))))), by simp [hb, hi]⟩
    have := refines_l0 p q (cnt p).toNat (by omega) r hr _ 0 (List.replicate (cnt p).toNat 0) rfl (by omega) (by simp) (fun j hj => by omega)
    simpa using this
  · exact ⟨false, ev_bind (both_ev p q) (ev_neg hb (ev_some false)), by simp [hb]⟩

theorem meet_is {p q : List Int} (hp : vld p = true) (hq : vld q = true) (hl : p.length = q.length) : ∃ r, IsMeet p q r ∧ Ev (fun k => partition_Meet.f k p q) r :=
  ⟨_, isMeet_canon hp hq hl, meet_ev (by simp [bothB, hp, hq, hl])⟩
theorem join_is {p q : List Int} (hp : vld p = true) (hq : vld q = true) (hl : p.length = q.length) : ∃ r, IsJoin p q r ∧ Ev (fun k => partition_Join.f k p q) r :=
  join_ev (by simp [bothB, hp, hq, hl])
def LeB (p q : List Int) : Prop := ∀ u v : Nat, u < p.length → v < p.length → rd p u = rd p v → rd q u = rd q v
theorem refines_is {p q : List Int} (hp : vld p = true) (hq : vld q = true) (hl : p.length = q.length) : ∃ b : Bool, (b = true ↔ LeB p q) ∧ Ev (fun k => partition_Refines.f k p q) b := by
  obtain ⟨b, e, h⟩ := refines_ev p q
  exact ⟨b, by rw [h]; exact ⟨fun h => h.2, fun h => ⟨by simp [bothB, hp, hq, hl], h⟩⟩, e⟩
theorem refines_yes {p q : List Int} (hp : vld p = true) (hq : vld q = true) (hl : p.length = q.length) (h : LeB p q) : Ev (fun k => partition_Refines.f k p q) true := by
  obtain ⟨b, h1, e⟩ := refines_is hp hq hl
  rwa [h1.2 h] at e
set_option maxHeartbeats 1000000 in
theorem PartitionExtremes : semigrouplaw03_PartitionExtremes.Pure := by
  intro p q r _ _ _ _ _ _ _ _ _
  have no : ∀ b : Bool, b = true → Ev (fun k => semigrouplaw03_PartitionExtremes.j0 k p q r b) true := fun b e => Ev.step (fun _ => rfl) (ev_pos e (ev_bind awake_ev (ev_some _)))
  refine Ev.rounds (ev_bind (pair_ev p q) ?_)
  by_cases h1 : ¬ pairB p q 60 = true
  · exact ev_neg h1 (no _ rfl)
  have h1 := Decidable.not_not.1 h1
  refine ev_pos h1 (ev_bind (pair_ev q r) ?_)
  by_cases h2 : ¬ pairB q r 60 = true
  · exact no _ (by simp [h2])
  have h2 := Decidable.not_not.1 h2
  obtain ⟨l1, l6, hp, hq⟩ := pairB_iff.1 h1
  obtain ⟨l2, _, _, hr⟩ := pairB_iff.1 h2
  obtain ⟨m, hm, em⟩ := meet_is hp hq l1
  obtain ⟨j, hj, ej⟩ := join_is hp hq l1
  have lm := hm.1
  have lj := hj.1
  obtain ⟨b1, i1, f1⟩ := refines_is hr hp (by omega)
  obtain ⟨b2, i2, f2⟩ := refines_is hr hq (by omega)
  obtain ⟨b3, i3, f3⟩ := refines_is hp hr (by omega)
  obtain ⟨b4, i4, f4⟩ := refines_is hq hr (by omega)
  obtain ⟨b5, i5, f5⟩ := refines_is hr hm.2.1 (by omega)
  obtain ⟨b6, i6, f6⟩ := refines_is hj.2.1 hr (by omega)
  have k1 : (b1 && b2) = b5 := by
    rw [Bool.eq_iff_iff, Bool.and_eq_true, i1, i2, i5]
    constructor
    · rintro ⟨x, y⟩ u v hu hv e
      exact (hm.2.2 u v (by omega) (by omega)).2 ⟨x u v hu hv e, y u v hu hv e⟩
    · intro x
      exact ⟨fun u v hu hv e => ((hm.2.2 u v (by omega) (by omega)).1 (x u v hu hv e)).1, fun u v hu hv e => ((hm.2.2 u v (by omega) (by omega)).1 (x u v hu hv e)).2⟩
  have k2 : (b3 && b4) = b6 := by
    rw [Bool.eq_iff_iff, Bool.and_eq_true, i3, i4, i6]
    constructor
    · rintro ⟨x, y⟩ u v hu hv e
      exact hj.least (g := fun u : Nat => rd r u) (fun a b ha hb e => x a b ha hb e) (fun a b ha hb e => y a b (by omega) (by omega) e) (by omega) (by omega) e
    · intro x
      exact ⟨fun u v hu hv e => x u v (by omega) (by omega) (hj.le1 (by omega) (by omega) e), fun u v hu hv e => x u v (by omega) (by omega) (hj.le2 (by omega) (by omega) e)⟩
  have J2 : Ev (fun k => semigrouplaw03_PartitionExtremes.j2 k p q r m j (b1 && b2)) true := by
    refine Ev.step (fun _ => rfl) (ev_bind f3 ?_)
    by_cases h3 : b3 = true
    · exact ev_pos h3 (ev_bind f4 (ev_bind f5 (ev_pos (by simp [k1]) (ev_bind f6 (ev_pos (by rw [← k2, h3]; simp) (ev_bind awake_ev (ev_some _)))))))
    · exact ev_neg h3 (ev_bind f5 (ev_pos (by simp [k1]) (ev_bind f6 (ev_pos (by rw [← k2]; simp [h3]) (ev_bind awake_ev (ev_some _))))))
  have J1 : ∀ b : Bool, b = false → Ev (fun k => semigrouplaw03_PartitionExtremes.j1 k p q r m j b) true := by
    intro b e
    refine Ev.step (fun _ => rfl) (ev_neg (by simp [e]) (ev_bind f1 ?_))
    by_cases h3 : b1 = true
    · refine ev_pos h3 (ev_bind f2 ?_)
      rw [h3, Bool.true_and] at J2
      exact J2
    · refine ev_neg h3 ?_
      rw [Bool.eq_false_iff.2 h3, Bool.false_and] at J2
      exact J2
  have J0 : ∀ b : Bool, b = false → Ev (fun k => semigrouplaw03_PartitionExtremes.j0 k p q r b) true := fun b e =>
    Ev.step (fun _ => rfl) (ev_neg (by simp [e]) (ev_bind em (ev_bind ej (ev_bind (refines_yes hm.2.1 hp (by omega) (fun u v hu hv e => ((hm.2.2 u v (by omega) (by omega)).1 e).1)) (ev_pos rfl (ev_bind (refines_yes hm.2.1 hq (by omega) (fun u v hu hv e => ((hm.2.2 u v (by omega) (by omega)).1 e).2)) (ev_pos rfl (ev_bind (refines_yes hp hj.2.1 (by omega) (fun u v hu hv e => hj.le1 (by omega) (by omega) e)) (ev_pos rfl (ev_bind (refines_yes hq hj.2.1 (by omega) (fun u v hu hv e => hj.le2 (by omega) (by omega) e)) (J1 _ rfl)))))))))))
  exact J0 _ (by simp [h2])

end Go.Proofs.Ytjpghckijecdcaa.Pure
