/- partition.FromPairs of two lists of pairs is the join of those of each, and a valid partition is that of its own neighbours (at most 100 points and 100 pairs in each list); no condition. -/
import Derived.Test.YtjpghckijecdcaaQPartitionJoins
namespace Go.Proofs.Ytjpghckijecdcaa.Pure
open Go.RowKit Go.Proofs.Ytjpghckijecdcaa.PPartitionJoins Go.Proofs.YtjpghckijecdcaaW.PrintWords Go.Proofs.YtjpghckijecdcaaW.PrintLast Go.Proofs.YtjpghckijecdcaaH
set_option linter.unusedVariables false
set_option linter.unusedSimpArgs false

theorem same_l0 (a b : List Int) (hab : a.length = b.length) (hn : a.length ≤ 140737488355328) : ∀ (d i : Nat), a.length - i = d → i ≤ a.length → a.take i = b.take i →
    Ev (fun k => semigroupref03_Same.l0 k a b (a.length : Int) (i : Int)) (decide (a = b)) := by
  intro d
  induction d with
  | zero =>
    intro i hd hi ht
    refine Ev.step (fun _ => rfl) (ev_neg (by omega) (ev_eq (ev_some true) ?_))
    have h1 : a.take i = a := List.take_of_length_le (by omega)
    have h2 : b.take i = b := List.take_of_length_le (by omega)
    rw [h1, h2] at ht
    simp [ht]
  | succ d ih =>
    intro i hd hi ht
    have hlt : i < a.length := by omega
    refine Ev.step (fun _ => rfl) (ev_pos (by omega) (ev_pos (by omega) (ev_pos (by omega) (ev_pos (by omega) ?_))))
    rw [rd_at a i hlt, rd_at b i (by omega)]
    by_cases h : a[i] = b[i]
    · refine ev_pos h ?_
      rw [wrap_succ hlt hn]
      exact ih (i + 1) (by omega) (by omega) (by rw [List.take_succ_eq_append_getElem hlt, List.take_succ_eq_append_getElem (by omega), ht, h])
    · refine ev_neg h (ev_eq (ev_some false) ?_)
      symm
      rw [decide_eq_false_iff_not]
      rintro rfl
      exact h rfl
theorem same_ev (a b : List Int) (hn : a.length ≤ 140737488355328) : Ev (fun k => semigroupref03_Same.f k a b) (decide (a = b)) := by
  by_cases h : a.length = b.length
  · exact ev_pos (by omega) (same_l0 a b h hn _ 0 rfl (by omega) (by simp))
  · refine ev_neg (by omega) (ev_eq (ev_some false) ?_)
    symm
    rw [decide_eq_false_iff_not]
    rintro rfl
    exact h rfl

theorem awake_ev : Ev (fun k => semigrouplaw03_awake.f k) true := by
  refine ev_bind0 (a := [0, 1, 0]) (by decide) (ev_bind (same_ev _ _ (by simp)) (ev_eq (ev_some _) (by simp)))

def vld (l : List Int) : Bool := decide (l.length ≤ 4096) && rgs 0 l

theorem rd_take (l : List Int) (i j : Nat) (h : j < i) : rd (l.take i) (j : Int) = rd l (j : Int) := by
  simp [rd, List.getD, List.getElem?_take, h]
theorem rd_snoc_lt (l : List Int) (x : Int) (j : Nat) (h : j < l.length) : rd (l ++ [x]) (j : Int) = rd l (j : Int) := by
  simp [rd, List.getD, List.getElem?_append_left h]
theorem rd_snoc_eq (l : List Int) (x : Int) : rd (l ++ [x]) (l.length : Int) = x := by simp [rd, List.getD]
def CanInv (l : List Int) (m : List (Int × Int)) (o : List Int) : Prop :=
  o.length = l.length ∧ (∀ j : Nat, j < l.length → mget m (rd l j) = some (rd o j)) ∧ (∀ x k, mget m x = some k → ∃ j : Nat, j < l.length ∧ rd l j = x) ∧
  (∀ x y k, mget m x = some k → mget m y = some k → x = y) ∧ (∀ x k, mget m x = some k → 0 ≤ k ∧ k < m.length)
theorem canInv_step {l : List Int} {m : List (Int × Int)} {o : List Int} (h : CanInv l m o) (x : Int) : CanInv (l ++ [x]) (canonStep (m, o) x).1 (canonStep (m, o) x).2 := by
  obtain ⟨h1, h2, h3, h4, h5⟩ := h
  cases hx : mget m x with
  | some k =>
    have e : canonStep (m, o) x = (m, o ++ [k]) := by simp [canonStep, hx]
    rw [e]
    refine ⟨by simp [h1], fun j hj => ?_, fun y k' hy => ?_, h4, h5⟩
    · by_cases hl : j < l.length
      · rw [rd_snoc_lt l x j hl, rd_snoc_lt o k j (by omega)]; exact h2 j hl
      · have : j = l.length := by simp at hj; omega
        subst this
        rw [rd_snoc_eq, ← h1, rd_snoc_eq]; exact hx
    · obtain ⟨j, hj, e⟩ := h3 y k' hy
      exact ⟨j, by simp; omega, by rw [rd_snoc_lt l x j hj]; exact e⟩
  | none =>
    have e : canonStep (m, o) x = (mput m x m.length, o ++ [(m.length : Int)]) := by simp [canonStep, hx]
    rw [e]
    have hlen : (mput m x (m.length : Int)).length = m.length + 1 := by rw [mput_length, hx]; rfl
    refine ⟨by simp [h1], fun j hj => ?_, fun y k' hy => ?_, fun y z k' hy hz => ?_, fun y k' hy => ?_⟩
    · by_cases hl : j < l.length
      · rw [rd_snoc_lt l x j hl, rd_snoc_lt o _ j (by omega)]
        have := h2 j hl
        rw [mget_put, if_neg (fun he => by rw [he, this] at hx; cases hx)]
        exact this
      · have : j = l.length := by simp at hj; omega
        subst this
        rw [rd_snoc_eq, ← h1, rd_snoc_eq, mget_put, if_pos rfl]
    · rw [mget_put] at hy
      split at hy
      · rename_i e; exact ⟨l.length, by simp, by rw [rd_snoc_eq]; exact e⟩
      · obtain ⟨j, hj, e⟩ := h3 y k' hy
        exact ⟨j, by simp; omega, by rw [rd_snoc_lt l x j hj]; exact e⟩
    · rw [mget_put] at hy hz
      split at hy
      · rename_i ey
        split at hz
        · rename_i ez; exact ey.symm.trans ez
        · injection hy with hy; have := h5 z k' hz; omega
      · split at hz
        · injection hz with hz; have := h5 y k' hy; omega
        · exact h4 y z k' hy hz
    · show _ ∧ k' < (((mput m x (m.length : Int)).length : Nat) : Int)
      rw [mget_put] at hy
      split at hy
      · injection hy with hy; omega
      · have := h5 y k' hy; omega
theorem canInv_take (l : List Int) : ∀ i : Nat, i ≤ l.length → CanInv (l.take i) (canonL (l.take i)).1 (canonL (l.take i)).2
  | 0, _ => ⟨rfl, fun j hj => by simp at hj, fun x k h => by simp [canonL, mget_nil] at h, fun x y k h => by simp [canonL, mget_nil] at h, fun x k h => by simp [canonL, mget_nil] at h⟩
  | i + 1, h => by
    rw [take_snoc_rd l i (by omega), canonL_snoc]
    exact canInv_step (canInv_take l i (by omega)) _
theorem canInv (l : List Int) : CanInv l (canonL l).1 (canonL l).2 := by have := canInv_take l l.length (Nat.le_refl _); rwa [List.take_length] at this
/-- The numbering keeps what is equal. -/
theorem canon_ker (l : List Int) (i j : Nat) (hi : i < l.length) (hj : j < l.length) : rd (canonL l).2 i = rd (canonL l).2 j ↔ rd l i = rd l j := by
  obtain ⟨_, h2, _, h4, _⟩ := canInv l
  constructor
  · intro e
    exact h4 _ _ _ (h2 i hi) (by rw [h2 j hj, e])
  · intro e
    have h := h2 i hi
    rw [e, h2 j hj] at h
    exact (Option.some.inj h).symm
theorem canon_same_take (a b : List Int) (hl : a.length = b.length) (h : ∀ i j : Nat, i < a.length → j < a.length → (rd a i = rd a j ↔ rd b i = rd b j)) :
    ∀ i : Nat, i ≤ a.length → (canonL (a.take i)).2 = (canonL (b.take i)).2 ∧ (canonL (a.take i)).1.length = (canonL (b.take i)).1.length
  | 0, _ => ⟨rfl, rfl⟩
  | i + 1, hi => by
    obtain ⟨e1, e2⟩ := canon_same_take a b hl h i (by omega)
    obtain ⟨_, a2, a3, _, _⟩ := canInv_take a i (by omega)
    obtain ⟨_, b2, b3, _, _⟩ := canInv_take b i (by omega)
    have la : (a.take i).length = i := by simp; omega
    have lb : (b.take i).length = i := by simp; omega
    rw [take_snoc_rd a i (by omega), take_snoc_rd b i (by omega), canonL_snoc, canonL_snoc]
    unfold canonStep
    cases ha : mget (canonL (a.take i)).1 (rd a i) with
    | some k =>
      obtain ⟨j, hj, e⟩ := a3 _ _ ha
      rw [la] at hj
      rw [rd_take a i j hj] at e
      have eb := (h j i (by omega) (by omega)).1 e
      have h1 := a2 j (by omega)
      have h2 := b2 j (by omega)
      rw [rd_take a i j hj, e, ha] at h1
      rw [rd_take b i j hj, eb, ← e1, ← Option.some.inj h1] at h2
      rw [h2]
      exact ⟨by simp [e1], e2⟩
    | none =>
      cases hb : mget (canonL (b.take i)).1 (rd b i) with
      | some k =>
        obtain ⟨j, hj, e⟩ := b3 _ _ hb
        rw [lb] at hj
        rw [rd_take b i j hj] at e
        have ea := (h j i (by omega) (by omega)).2 e
        have h1 := a2 j (by omega)
        rw [rd_take a i j hj, ea, ha] at h1
        cases h1
      | none => exact ⟨by simp [e1, e2], by simp [mput_length, ha, hb, e2]⟩
/-- Lists whose equal places are the same have the same numbering. -/
theorem canon_same (a b : List Int) (hl : a.length = b.length) (h : ∀ i j : Nat, i < a.length → j < a.length → (rd a i = rd a j ↔ rd b i = rd b j)) : (canonL a).2 = (canonL b).2 := by
  have h1 := (canon_same_take a b hl h a.length (Nat.le_refl _)).1
  rwa [List.take_length, hl, List.take_length] at h1
theorem vld_canon {l : List Int} (h : vld l = true) : (canonL l).2 = l := by
  simp only [vld, Bool.and_eq_true, decide_eq_true_eq] at h
  exact (canon_id l).2 h.2
theorem canon_vld (l : List Int) (h : l.length ≤ 4096) : vld (canonL l).2 = true := by
  simp [vld, canonL_len, h, rgs_canon]
/-- Two valid lists of one length whose equal places are the same. -/
theorem vld_ext {a b : List Int} (ha : vld a = true) (hb : vld b = true) (hl : a.length = b.length) (h : ∀ i j : Nat, i < a.length → j < a.length → (rd a i = rd a j ↔ rd b i = rd b j)) : a = b := by
  rw [← vld_canon ha, ← vld_canon hb]
  exact canon_same a b hl h
theorem vld_le {l : List Int} (h : vld l = true) : l.length ≤ 4096 := by
  simp only [vld, Bool.and_eq_true, decide_eq_true_eq] at h; exact h.1
theorem rgs_rd : ∀ (l : List Int) (n : Nat), rgs n l = true → ∀ j : Nat, j < l.length → 0 ≤ rd l j ∧ rd l j < n + l.length
  | [], _, _, j, hj => by simp at hj
  | x :: l, n, h, j, hj => by
    unfold rgs at h
    split at h
    · cases h
    · rename_i hx
      cases j with
      | zero => simp [rd]; omega
      | succ j =>
        have := rgs_rd l _ h j (by simpa using hj)
        have e : rd (x :: l) ((j + 1 : Nat) : Int) = rd l (j : Int) := by simp only [rd, Int.toNat_natCast, List.getD_cons_succ]
        rw [e]
        simp only [List.length_cons]
        split at this <;> omega
theorem vld_rd {l : List Int} (h : vld l = true) (j : Nat) (hj : j < l.length) : 0 ≤ rd l j ∧ rd l j < l.length := by
  simp only [vld, Bool.and_eq_true, decide_eq_true_eq] at h
  have := rgs_rd l 0 h.2 j hj
  omega

/-- Going up from x one comes to the root r, in k steps. -/
inductive Rt (f : List Int) : Nat → Nat → Nat → Prop
  | root {x : Nat} (hx : x < f.length) (he : rd f x = (x : Int)) : Rt f x x 0
  | step {x y r k : Nat} (hx : x < f.length) (he : rd f x = (y : Int)) (hne : y ≠ x) (h : Rt f y r k) : Rt f x r (k + 1)
theorem Rt.lt {f : List Int} {x r k : Nat} (h : Rt f x r k) : x < f.length := by cases h <;> assumption
theorem Rt.end_ {f : List Int} {x r k : Nat} (h : Rt f x r k) : r < f.length ∧ rd f r = (r : Int) := by
  induction h with
  | root hx he => exact ⟨hx, he⟩
  | step _ _ _ _ ih => exact ih
theorem Rt.same {f : List Int} {x r k r' k' : Nat} (h : Rt f x r k) (h' : Rt f x r' k') : r = r' ∧ k = k' := by
  induction h generalizing r' k' with
  | root hx he =>
    cases h' with
    | root => exact ⟨rfl, rfl⟩
    | step _ he' hne _ => rw [he] at he'; exact absurd (Int.ofNat.inj he').symm hne
  | step hx he hne h ih =>
    cases h' with
    | root _ he' => rw [he] at he'; exact absurd (Int.ofNat.inj he') hne
    | step _ he' _ h' =>
      rw [he] at he'
      have := Int.ofNat.inj he'
      subst this
      obtain ⟨e1, e2⟩ := ih h'
      exact ⟨e1, by rw [e2]⟩
theorem rd_set_eq (f : List Int) (x : Nat) (v : Int) (hx : x < f.length) : rd (f.set x v) (x : Int) = v := by
  simp [rd, List.getD, hx]
theorem rd_set_ne (f : List Int) (x y : Nat) (v : Int) (h : x ≠ y) : rd (f.set x v) (y : Int) = rd f (y : Int) := by
  simp [rd, List.getD, List.getElem?_set_ne h]
/-- One step of the halving: all roots stay, no way grows. -/
theorem halve {f : List Int} {x y z : Nat} (hx : x < f.length) (hy : rd f x = (y : Int)) (hne : y ≠ x) (hz : rd f y = (z : Int)) :
    ∀ (k u r : Nat), Rt f u r k → ∃ k', k' ≤ k ∧ Rt (f.set x z) u r k' ∧ (u = x → 1 ≤ k') := by
  intro k
  induction k using Nat.strongRecOn with
  | ind k ih =>
    intro u r h
    cases h with
    | root hu he =>
      have hux : x ≠ u := by
        rintro rfl
        rw [hy] at he
        exact hne (Int.ofNat.inj he)
      exact ⟨0, Nat.le_refl _, .root (by simpa using hu) (by rw [rd_set_ne f x u _ hux]; exact he), fun e => absurd e.symm hux⟩
    | @step _ v _ k hu he hnv h =>
      by_cases hux : u = x
      · subst hux
        rw [hy] at he
        have hv := Int.ofNat.inj he
        subst hv
        cases h with
        | root hv' he' =>
          rw [hz] at he'
          have := Int.ofNat.inj he'
          subst this
          refine ⟨1, by omega, .step (by simpa using hx) (rd_set_eq f u _ hx) hne (.root (by simpa using hv') (by rw [rd_set_ne f u z _ (Ne.symm hne)]; exact hz)), fun _ => Nat.le_refl _⟩
        | @step _ t _ k hv' he' hnt h2 =>
          rw [hz] at he'
          have := Int.ofNat.inj he'
          subst this
          have hzu : z ≠ u := by
            rintro rfl
            have h3 : Rt f z r (k + 1 + 1) := .step hu hy hne (.step hv' hz hnt h2)
            have := (h3.same h2).2
            omega
          obtain ⟨k', hk', h4, _⟩ := ih k (by omega) z r h2
          exact ⟨k' + 1, by omega, .step (by simpa using hx) (rd_set_eq f u _ hx) hzu h4, fun _ => by omega⟩
      · obtain ⟨k', hk', h4, _⟩ := ih k (by omega) v r h
        exact ⟨k' + 1, by omega, .step (by simpa using hu) (by rw [rd_set_ne f x u _ (Ne.symm hux)]; exact he) hnv h4, fun e => absurd e hux⟩
/-- f is a forest whose roots are told by R. -/
def UF (f : List Int) (n : Nat) (R : Nat → Nat) : Prop := f.length = n ∧ ∀ x, x < n → ∃ k, Rt f x (R x) k
theorem UF.lt {f : List Int} {n : Nat} {R : Nat → Nat} (h : UF f n R) (x : Nat) (hx : x < n) : R x < n := by
  obtain ⟨k, hk⟩ := h.2 x hx
  rw [← h.1]; exact hk.end_.1
theorem find_ev (n : Nat) (R : Nat → Nat) : ∀ (k x : Nat) (f : List Int), UF f n R → Rt f x (R x) k → ∃ f', UF f' n R ∧ Ev (fun j => partition_forest_find.l0 j f (x : Int)) ((R x : Int), f') := by
  intro k
  induction k using Nat.strongRecOn with
  | ind k ih =>
    intro x f hf h
    have hx := h.lt
    rcases Nat.eq_zero_or_pos k with hk | hk
    · subst hk
      have e : R x = x ∧ rd f x = (x : Int) := by
        generalize hr : R x = r at h
        cases h with
        | root _ he => exact ⟨rfl, he⟩
      refine ⟨f, hf, Ev.step (fun _ => rfl) (ev_pos (by omega) (ev_pos (by omega) (ev_pos e.2 (ev_eq (ev_some _) (by rw [e.1])))))⟩
    · obtain ⟨y, k', hy, hne, h2, hk'⟩ : ∃ (y k' : Nat), rd f x = (y : Int) ∧ y ≠ x ∧ Rt f y (R x) k' ∧ k = k' + 1 := by
        generalize hr : R x = r at h ⊢
        cases h with
        | root => omega
        | step _ he hn h => exact ⟨_, _, he, hn, h, rfl⟩
      have hyl := h2.lt
      obtain ⟨z, hz, hzl, kz, hz3, hz4⟩ : ∃ z : Nat, rd f y = (z : Int) ∧ z < f.length ∧ ∃ kz, Rt f z (R x) kz ∧ kz < k := by
        generalize hr : R x = r at h2 ⊢
        cases h2 with
        | root _ he => exact ⟨_, he, hyl, 0, .root hyl he, hk⟩
        | step _ he hn h => exact ⟨_, he, h.lt, _, h, by omega⟩
      have hset : UF (f.set x z) n R := ⟨by rw [List.length_set]; exact hf.1, fun u hu => by
        obtain ⟨ku, h5⟩ := hf.2 u hu
        obtain ⟨k'', _, h6, _⟩ := halve hx hy hne hz ku u _ h5
        exact ⟨k'', h6⟩⟩
      obtain ⟨kz', hkz, hz5, _⟩ := halve hx hy hne hz kz z _ hz3
      have hRz : R z = R x := by
        obtain ⟨kk, h7⟩ := hset.2 z (by rw [← hf.1]; exact hzl)
        exact (h7.same hz5).1
      obtain ⟨f', hf', hev⟩ := ih kz' (by omega) z (f.set x z) hset (by rw [hRz]; exact hz5)
      refine ⟨f', hf', Ev.step (fun _ => rfl) (ev_pos (by omega) (ev_pos (by omega) (ev_neg (by rw [hy]; intro e; exact hne (Int.ofNat.inj e)) (ev_pos (by rw [hy]; omega) (ev_pos (by rw [hy]; omega) (ev_bind0 rfl ?_))))))⟩
      have e1 : rd f (rd f (x : Int)) = (z : Int) := by rw [hy, hz]
      have e2 : rd (f.set (x : Int).toNat (rd f (rd f (x : Int)))) (x : Int) = (z : Int) := by rw [e1, Int.toNat_natCast, rd_set_eq f x _ hx]
      rw [e2, e1, Int.toNat_natCast, ← hRz]
      exact hev
theorem find_ev' {n : Nat} {R : Nat → Nat} {f : List Int} (hf : UF f n R) (x : Nat) (hx : x < n) : ∃ f', UF f' n R ∧ Ev (fun j => partition_forest_find.f j f (x : Int)) ((R x : Int), f') := by
  obtain ⟨k, h⟩ := hf.2 x hx
  exact find_ev n R k x f hf h
/-- The classes of x and y become one. -/
def mrg {α : Type} [DecidableEq α] (R : Nat → α) (x y u : Nat) : α := if R u = R x then R y else R u
theorem union_ev {n : Nat} {R : Nat → Nat} {f : List Int} (hf : UF f n R) (x y : Nat) (hx : x < n) (hy : y < n) : ∃ f', UF f' n (mrg R x y) ∧ Ev (fun j => partition_forest_union.f j f (x : Int) (y : Int)) f' := by
  obtain ⟨f1, h1, e1⟩ := find_ev' hf x hx
  obtain ⟨f2, h2, e2⟩ := find_ev' h1 y hy
  refine ⟨f2.set (R x) (R y : Int), ?_, ?_⟩
  · refine ⟨by rw [List.length_set]; exact h2.1, fun u hu => ?_⟩
    obtain ⟨k, hk⟩ := h2.2 u hu
    obtain ⟨ky, hky⟩ := h2.2 y hy
    obtain ⟨kx, hkx⟩ := h2.2 x hx
    obtain ⟨hxl, hxe⟩ := hkx.end_
    obtain ⟨hyl, hye⟩ := hky.end_
    by_cases hxy : R x = R y
    · have hs : f2.set (R x) (R y : Int) = f2 := by
        apply List.ext_getElem?
        intro i
        rw [List.getElem?_set]
        split
        · rename_i e; subst e
          have : rd f2 (R x : Int) = f2[R x] := by simp [rd, List.getD, hxl]
          rw [List.getElem?_eq_getElem hxl, ← this, hxe, hxy]
        · rfl
      rw [hs]
      have hm : mrg R x y u = R u := by unfold mrg; split <;> simp_all
      rw [hm]
      exact ⟨k, hk⟩
    · have key : ∀ (k u r : Nat), Rt f2 u r k → ∃ k', Rt (f2.set (R x) (R y : Int)) u (if r = R x then R y else r) k' := by
        intro k
        induction k with
        | zero =>
          intro u r h
          cases h with
          | root hu he =>
            by_cases hr : u = R x
            · subst hr
              rw [if_pos rfl]
              exact ⟨1, .step (by simpa using hxl) (rd_set_eq f2 _ _ hxl) (Ne.symm hxy) (.root (by simpa using hyl) (by rw [rd_set_ne f2 _ _ _ hxy]; exact hye))⟩
            · rw [if_neg hr]
              exact ⟨0, .root (by simpa using hu) (by rw [rd_set_ne f2 _ _ _ (Ne.symm hr)]; exact he)⟩
        | succ k ih =>
          intro u r h
          cases h with
          | step hu he hn h =>
            obtain ⟨k', h'⟩ := ih _ _ h
            have hr : u ≠ R x := by
              rintro rfl
              rw [hxe] at he
              exact hn (Int.ofNat.inj he).symm
            exact ⟨k' + 1, .step (by simpa using hu) (by rw [rd_set_ne f2 _ _ _ (Ne.symm hr)]; exact he) hn h'⟩
      exact key k u _ hk
  · have hl := h1.lt x hx
    have hRx : ((R x : Nat) : Int) < (f.length : Int) := by rw [hf.1]; have := hf.lt x hx; omega
    refine ev_bind e1 (ev_bind e2 (ev_pos (by omega) (ev_pos hRx (ev_some _))))
theorem newForest_ev (n : Nat) (hn : n ≤ 4096) : ∃ f, UF f n (fun x => x) ∧ Ev (fun k => partition_newForest.f k (n : Int)) f := by
  have key : ∀ (d i : Nat) (l : List Int), n - i = d → i ≤ n → l.length = n → (∀ j : Nat, j < i → rd l j = (j : Int)) →
      ∃ f : List Int, f.length = n ∧ (∀ j : Nat, j < n → rd f j = (j : Int)) ∧ Ev (fun k => partition_newForest.l0 k l (n : Int) (i : Int)) f := by
    intro d
    induction d with
    | zero =>
      intro i l hd hi hl hj
      exact ⟨l, hl, fun j hjn => hj j (by omega), Ev.step (fun _ => rfl) (ev_neg (by omega) (ev_some _))⟩
    | succ d ih =>
      intro i l hd hi hl hj
      obtain ⟨f, h1, h2, h3⟩ := ih (i + 1) (l.set i (i : Int)) (by omega) (by omega) (by rw [List.length_set]; exact hl) (fun j hjn => by
        by_cases e : i = j
        · subst e; exact rd_set_eq l i _ (by omega)
        · rw [rd_set_ne l i j _ e]; exact hj j (by omega))
      refine ⟨f, h1, h2, Ev.step (fun _ => rfl) (ev_pos (by omega) (ev_pos (by omega) (ev_pos (by omega) ?_)))⟩
      rw [wrap_succ (n := n) (by omega) (by omega), Int.toNat_natCast]
      exact h3
  obtain ⟨f, h1, h2, h3⟩ := key n 0 (List.replicate n 0) (by omega) (by omega) (by simp) (fun j hj => by omega)
  refine ⟨f, ⟨h1, fun x hx => ⟨0, .root (by omega) (h2 x hx)⟩⟩, ev_pos (by omega) (ev_pos (by omega) (ev_bind0 rfl ?_))⟩
  rw [Int.toNat_natCast, List.length_replicate]
  exact h3
theorem fpart_ev {n : Nat} {R : Nat → Nat} {f : List Int} (hf : UF f n R) (hn : n ≤ 4096) : ∃ (l f' : List Int), l.length = n ∧ (∀ j : Nat, j < n → rd l j = (R j : Int)) ∧ Ev (fun k => partition_forest_partition.f k f) ((canonL l).2, f') := by
  have key : ∀ (d i : Nat) (f l : List Int), n - i = d → i ≤ n → UF f n R → l.length = n → (∀ j : Nat, j < i → rd l j = (R j : Int)) →
      ∃ l' f' : List Int, l'.length = n ∧ (∀ j : Nat, j < n → rd l' j = (R j : Int)) ∧ Ev (fun k => partition_forest_partition.l0 k f l (n : Int) (i : Int)) ((canonL l').2, f') := by
    intro d
    induction d with
    | zero =>
      intro i f l hd hi hf hl hj
      refine ⟨l, f, hl, fun j hjn => hj j (by omega), Ev.step (fun _ => rfl) (ev_neg (by omega) (ev_bind0 (a := (canonL l).2) ?_ (ev_some _)))⟩
      unfold partition_Canonical.f
      rw [if_neg (by omega)]
    | succ d ih =>
      intro i f l hd hi hf hl hj
      obtain ⟨f1, hf1, e1⟩ := find_ev' hf i (by omega)
      obtain ⟨l', f', h1, h2, h3⟩ := ih (i + 1) f1 (l.set i (R i : Int)) (by omega) (by omega) hf1 (by rw [List.length_set]; exact hl) (fun j hjn => by
        by_cases e : i = j
        · subst e; exact rd_set_eq l i _ (by omega)
        · rw [rd_set_ne l i j _ e]; exact hj j (by omega))
      refine ⟨l', f', h1, h2, Ev.step (fun _ => rfl) (ev_pos (by omega) (ev_bind e1 (ev_pos (by omega) (ev_pos (by omega) ?_))))⟩
      show Ev (fun k => partition_forest_partition.l0 k f1 (l.set (i : Int).toNat (R i : Int)) (n : Int) (wrap64 ((i : Int) + 1))) _
      rw [wrap_succ (n := n) (by omega) (by omega), Int.toNat_natCast]
      exact h3
  have hfl := hf.1
  obtain ⟨l', f', h1, h2, h3⟩ := key n 0 f (List.replicate n 0) (by omega) (by omega) hf (by simp) (fun j hj => by omega)
  refine ⟨l', f', h1, h2, ev_pos (by omega) (ev_pos (by omega) (ev_bind0 rfl ?_))⟩
  rw [Int.toNat_natCast, List.length_replicate, hfl]
  exact h3

/-- The least equivalence of the numbers below n that contains B. -/
inductive EG (B : Nat → Nat → Prop) (n : Nat) : Nat → Nat → Prop
  | of {x y : Nat} (hx : x < n) (hy : y < n) (h : B x y) : EG B n x y
  | refl {x : Nat} (hx : x < n) : EG B n x x
  | symm {x y : Nat} (h : EG B n x y) : EG B n y x
  | trans {x y z : Nat} (h : EG B n x y) (h' : EG B n y z) : EG B n x z
theorem EG.lt {B : Nat → Nat → Prop} {n x y : Nat} (h : EG B n x y) : x < n ∧ y < n := by
  induction h with
  | of hx hy _ => exact ⟨hx, hy⟩
  | refl hx => exact ⟨hx, hx⟩
  | symm _ ih => exact ⟨ih.2, ih.1⟩
  | trans _ _ i1 i2 => exact ⟨i1.1, i2.2⟩
theorem EG.le {α : Type} {B : Nat → Nat → Prop} {n : Nat} {g : Nat → α} (hB : ∀ u v, u < n → v < n → B u v → g u = g v) {x y : Nat} (h : EG B n x y) : g x = g y := by
  induction h with
  | of hx hy h => exact hB _ _ hx hy h
  | refl _ => rfl
  | symm _ ih => exact ih.symm
  | trans _ _ i1 i2 => exact i1.trans i2
def Sub {α : Type} (g : Nat → α) (B : Nat → Nat → Prop) (n : Nat) : Prop := ∀ u v, u < n → v < n → g u = g v → EG B n u v
theorem mrg_keep {α : Type} [DecidableEq α] (g : Nat → α) (x y : Nat) {u v : Nat} (h : g u = g v) : mrg g x y u = mrg g x y v := by
  unfold mrg; rw [h]
theorem mrg_join {α : Type} [DecidableEq α] (g : Nat → α) (x y : Nat) : mrg g x y x = mrg g x y y := by
  unfold mrg; rw [if_pos rfl]; split <;> rfl
theorem mrg_sub {α : Type} [DecidableEq α] {g : Nat → α} {B : Nat → Nat → Prop} {n x y : Nat} (h : Sub g B n) (hx : x < n) (hy : y < n) (hB : EG B n x y) : Sub (mrg g x y) B n := by
  intro u v hu hv e
  unfold mrg at e
  split at e <;> split at e
  · rename_i h1 h2; exact h u v hu hv (h1.trans h2.symm)
  · rename_i h1 h2; exact .trans (h u x hu hx h1) (.trans hB (h y v hy hv e))
  · rename_i h1 h2; exact .trans (h u y hu hy e) (.trans (.symm hB) (h x v hx hv h2.symm))
  · exact h u v hu hv e

def okP (n : Nat) (x : S42) : Bool := decide (0 ≤ x.f0 ∧ x.f0 < n ∧ 0 ≤ x.f1 ∧ x.f1 < n)
def PB (l : List S42) (u v : Nat) : Prop := ∃ x ∈ l, x.f0 = (u : Int) ∧ x.f1 = (v : Int)
def IsPairs (n : Nat) (l : List S42) (r : List Int) : Prop := r.length = n ∧ vld r = true ∧ ∀ u v : Nat, u < n → v < n → (rd r u = rd r v ↔ EG (PB l) n u v)
theorem isPairs_same {n : Nat} {l : List S42} {r r' : List Int} (h : IsPairs n l r) (h' : IsPairs n l r') : r = r' :=
  vld_ext h.2.1 h'.2.1 (by rw [h.1, h'.1]) (fun i j hi hj => by rw [h.2.2 i j (by rw [← h.1]; exact hi) (by rw [← h.1]; exact hj), h'.2.2 i j (by rw [← h.1]; exact hi) (by rw [← h.1]; exact hj)])
theorem rdT_at (l : List S42) (i : Nat) (h : i < l.length) : rd_T42 l (i : Int) = l[i] := by simp [rd_T42, List.getD, h]
theorem drop_T (l : List S42) (i : Nat) (h : i < l.length) : l.drop i = rd_T42 l (i : Int) :: l.drop (i + 1) := by rw [rdT_at l i h]; exact List.drop_eq_getElem_cons h
theorem rdT_mem (l : List S42) (i : Nat) (h : i < l.length) : rd_T42 l (i : Int) ∈ l := by rw [rdT_at l i h]; exact List.getElem_mem h
theorem okP_nat {n : Nat} {x : S42} (h : okP n x = true) : ∃ u v : Nat, u < n ∧ v < n ∧ x.f0 = (u : Int) ∧ x.f1 = (v : Int) := by
  simp only [okP, decide_eq_true_eq] at h
  exact ⟨x.f0.toNat, x.f1.toNat, by omega, by omega, by omega, by omega⟩
theorem pairs_l0 (n : Nat) (hn : n ≤ 4096) (l : List S42) (hl : l.length ≤ 140737488355328) : ∀ (d i : Nat) (f : List Int) (R : Nat → Nat), l.length - i = d → i ≤ l.length → UF f n R → Sub R (PB l) n →
    (∀ j : Nat, j < i → ∀ u v : Nat, (rd_T42 l j).f0 = (u : Int) → (rd_T42 l j).f1 = (v : Int) → R u = R v) →
    ∃ r, (if (l.drop i).all (okP n) = true then IsPairs n l r else r = []) ∧ Ev (fun k => partition_FromPairs.l0 k (n : Int) f l (l.length : Int) (i : Int)) r := by
  intro d
  induction d with
  | zero =>
    intro i f R hd hi hf hs hj
    obtain ⟨t, f', e1, e2, e3⟩ := fpart_ev hf hn
    refine ⟨(canonL t).2, ?_, Ev.step (fun _ => rfl) (ev_neg (by omega) (ev_bind e3 (ev_some _)))⟩
    rw [show l.drop i = [] from List.drop_eq_nil_of_le (by omega)]
    rw [if_pos (by rfl)]
    refine ⟨by rw [canonL_len, e1], canon_vld t (by omega), fun u v hu hv => ?_⟩
    rw [canon_ker t u v (by omega) (by omega), e2 u hu, e2 v hv]
    constructor
    · exact fun e => hs u v hu hv (Int.ofNat.inj e)
    · intro e
      have := EG.le (g := R) (fun a b ha hb hab => by
        obtain ⟨x, hx, h1, h2⟩ := hab
        obtain ⟨j, hjl, rfl⟩ := List.getElem_of_mem hx
        exact hj j (by omega) a b (by rw [rdT_at l j hjl]; exact h1) (by rw [rdT_at l j hjl]; exact h2)) e
      rw [this]
  | succ d ih =>
    intro i f R hd hi hf hs hj
    have hil : i < l.length := by omega
    rw [drop_T l i hil]
    by_cases hok : okP n (rd_T42 l (i : Int)) = true
    · obtain ⟨u, v, hu, hv, e0, e1⟩ := okP_nat hok
      obtain ⟨f', hf', e'⟩ := union_ev hf u v hu hv
      obtain ⟨r, hr, er⟩ := ih (i + 1) f' (mrg R u v) (by omega) (by omega) hf' (mrg_sub hs hu hv (.of hu hv ⟨_, rdT_mem l i hil, e0, e1⟩)) (fun j hjl a b ha hb => by
        by_cases e : j = i
        · subst e
          rw [e0] at ha
          rw [e1] at hb
          have := Int.ofNat.inj ha
          have := Int.ofNat.inj hb
          subst_vars
          exact mrg_join R a b
        · exact mrg_keep R u v (hj j (by omega) a b ha hb))
      refine ⟨r, by rw [List.all_cons, hok, Bool.true_and]; exact hr, Ev.step (fun _ => rfl) (ev_pos (by omega) (ev_pos (by omega) (ev_pos (by omega) (ev_neg (by omega) (ev_neg (by omega) (ev_neg (by omega) (ev_neg (by omega) (ev_bind (by rw [e0, e1]; exact e') ?_))))))))⟩
      rw [wrap_succ (n := l.length) (by omega) (by omega)]
      exact er
    · refine ⟨[], by rw [List.all_cons, Bool.eq_false_iff.2 hok, Bool.false_and]; rfl, Ev.step (fun _ => rfl) (ev_pos (by omega) (ev_pos (by omega) (ev_pos (by omega) ?_)))⟩
      simp only [okP, decide_eq_true_eq] at hok
      by_cases h1 : (rd_T42 l (i : Int)).f0 < 0
      · exact ev_pos h1 (ev_some _)
      refine ev_neg h1 ?_
      by_cases h2 : (rd_T42 l (i : Int)).f0 ≥ (n : Int)
      · exact ev_pos h2 (ev_some _)
      refine ev_neg h2 ?_
      by_cases h3 : (rd_T42 l (i : Int)).f1 < 0
      · exact ev_pos h3 (ev_some _)
      refine ev_neg h3 (ev_pos ?_ (ev_some _))
      omega
def mayP (n : Int) (l : List S42) : Bool := decide (0 ≤ n ∧ n ≤ 4096) && l.all (okP n.toNat)
theorem pairs_ev (n : Int) (l : List S42) (hl : l.length ≤ 140737488355328) : ∃ r, (if mayP n l = true then IsPairs n.toNat l r else r = []) ∧ Ev (fun k => partition_FromPairs.f k n l) r := by
  have no : ∀ b : Bool, b = true → Ev (fun k => partition_FromPairs.j0 k n l b) [] := fun b e => Ev.step (fun _ => rfl) (ev_pos e (ev_some _))
  by_cases h0 : n < 0
  · exact ⟨[], by rw [if_neg (by simp [mayP]; omega)], ev_pos h0 (no _ rfl)⟩
  by_cases h1 : n > 4096
  · exact ⟨[], by rw [if_neg (by simp [mayP]; omega)], ev_neg h0 (no _ (by simp [h1]))⟩
  obtain ⟨m, rfl⟩ : ∃ m : Nat, n = (m : Int) := ⟨n.toNat, by omega⟩
  obtain ⟨f, hf, ef⟩ := newForest_ev m (by omega)
  obtain ⟨r, hr, er⟩ := pairs_l0 m (by omega) l hl l.length 0 f (fun x => x) (by omega) (by omega) hf (fun u v hu hv e => by have e : u = v := e; subst e; exact .refl hu) (fun j hj => by omega)
  have no2 : ∀ b : Bool, b = false → Ev (fun k => partition_FromPairs.j0 k (m : Int) l b) r := fun b e => Ev.step (fun _ => rfl) (ev_neg (by simp [e]) (ev_bind ef er))
  refine ⟨r, ?_, ev_neg h0 (no2 _ (by simp; omega))⟩
  rw [List.drop_zero] at hr
  have e : mayP (m : Int) l = l.all (okP m) := by
    unfold mayP
    rw [show decide (0 ≤ (m : Int) ∧ (m : Int) ≤ 4096) = true from decide_eq_true (by omega), Bool.true_and, Int.toNat_natCast]
  rw [e, Int.toNat_natCast]
  exact hr

theorem may_l0 (n : Nat) (l : List S42) (hl : l.length ≤ 140737488355328) : ∀ (d i : Nat), l.length - i = d → i ≤ l.length → Ev (fun k => semigroupref03_MayPairs.l0 k (n : Int) l (l.length : Int) (i : Int)) ((l.drop i).all (okP n)) := by
  intro d
  induction d with
  | zero =>
    intro i hd hi
    rw [show l.drop i = [] from List.drop_eq_nil_of_le (by omega)]
    exact Ev.step (fun _ => rfl) (ev_neg (by omega) (ev_some _))
  | succ d ih =>
    intro i hd hi
    have hil : i < l.length := by omega
    rw [drop_T l i hil, List.all_cons]
    refine Ev.step (fun _ => rfl) (ev_pos (by omega) (ev_pos (by omega) (ev_pos (by omega) ?_)))
    by_cases hok : okP n (rd_T42 l (i : Int)) = true
    · have hok' := hok
      simp only [okP, decide_eq_true_eq] at hok'
      rw [hok, Bool.true_and]
      refine ev_neg (by omega) (ev_neg (by omega) (ev_neg (by omega) (ev_neg (by omega) ?_)))
      rw [wrap_succ (n := l.length) (by omega) (by omega)]
      exact ih (i + 1) (by omega) (by omega)
    · rw [Bool.eq_false_iff.2 hok, Bool.false_and]
      simp only [okP, decide_eq_true_eq] at hok
      by_cases h1 : (rd_T42 l (i : Int)).f0 < 0
      · exact ev_pos h1 (ev_some _)
      refine ev_neg h1 ?_
      by_cases h2 : (rd_T42 l (i : Int)).f0 ≥ (n : Int)
      · exact ev_pos h2 (ev_some _)
      refine ev_neg h2 ?_
      by_cases h3 : (rd_T42 l (i : Int)).f1 < 0
      · exact ev_pos h3 (ev_some _)
      refine ev_neg h3 (ev_pos ?_ (ev_some _))
      omega
theorem may_ev (n : Int) (l : List S42) (hl : l.length ≤ 140737488355328) : Ev (fun k => semigroupref03_MayPairs.f k n l) (mayP n l) := by
  have no : ∀ b : Bool, b = true → Ev (fun k => semigroupref03_MayPairs.j0 k n l b) false := fun b e => Ev.step (fun _ => rfl) (ev_pos e (ev_some _))
  by_cases h0 : n < 0
  · exact ev_eq (ev_pos h0 (no _ rfl)) (by rw [eq_comm, Bool.eq_false_iff]; simp [mayP]; omega)
  by_cases h1 : n > 4096
  · exact ev_eq (ev_neg h0 (no _ (by simp [h1]))) (by rw [eq_comm, Bool.eq_false_iff]; simp [mayP]; omega)
  obtain ⟨m, rfl⟩ : ∃ m : Nat, n = (m : Int) := ⟨n.toNat, by omega⟩
  have yes : ∀ b : Bool, b = false → Ev (fun k => semigroupref03_MayPairs.j0 k (m : Int) l b) (l.all (okP m)) := fun b e => Ev.step (fun _ => rfl) (ev_neg (by simp [e]) (by have := may_l0 m l hl l.length 0 (by omega) (by omega); rwa [List.drop_zero] at this))
  refine ev_eq (ev_neg h0 (yes _ (by simp; omega))) ?_
  unfold mayP
  rw [show decide (0 ≤ (m : Int) ∧ (m : Int) ≤ 4096) = true from decide_eq_true (by omega), Bool.true_and, Int.toNat_natCast]

theorem valid_l0 (l : List Int) (hn : l.length ≤ 4096) : ∀ (d i n : Nat), l.length - i = d → i ≤ l.length → n ≤ i → Ev (fun k => partition_Valid.l0 k (n : Int) l (l.length : Int) (i : Int)) (rgs n (l.drop i)) := by
  intro d
  induction d with
  | zero =>
    intro i n hd hi hni
    refine Ev.step (fun _ => by simp only [partition_Valid.l0]; rfl) (ev_neg (by omega) (ev_eq (ev_some true) ?_))
    rw [List.drop_of_length_le (by omega)]
    rfl
  | succ d ih =>
    intro i n hd hi hni
    have hlt : i < l.length := by omega
    rw [List.drop_eq_getElem_cons hlt]
    refine Ev.step (fun _ => by simp only [partition_Valid.l0]; rfl) (ev_pos (by omega) (ev_pos (by omega) (ev_pos (by omega) ?_)))
    rw [rd_at l i hlt]
    by_cases h1 : l[i] < 0
    · refine ev_pos h1 (Ev.step (fun _ => by simp only [partition_Valid.j1]; rfl) (ev_pos (Eq.refl true) (ev_eq (ev_some false) ?_)))
      rw [rgs, if_pos (by omega)]
    · refine ev_neg h1 (Ev.step (fun _ => by simp only [partition_Valid.j1]; rfl) ?_)
      by_cases h2 : l[i] > (n : Int)
      · refine ev_pos (by simpa using h2) (ev_eq (ev_some false) ?_)
        rw [rgs, if_pos (by omega)]
      · refine ev_neg (by simpa using h2) ?_
        rw [rgs, if_neg (by omega), wrap_succ hlt (by omega)]
        by_cases h3 : l[i] = (n : Int)
        · refine ev_pos h3 ?_
          rw [wrap_succ (i := n) (n := 5000) (by omega) (by omega), if_pos h3]
          exact ih (i + 1) (n + 1) (by omega) (by omega) (by omega)
        · refine ev_neg h3 ?_
          rw [if_neg h3]
          exact ih (i + 1) n (by omega) (by omega) (by omega)
theorem valid_ev (l : List Int) : Ev (fun k => partition_Valid.f k l) (vld l) := by
  by_cases h : l.length ≤ 4096
  · exact ev_neg (by omega) (ev_eq (valid_l0 l h _ 0 0 rfl (by omega) (by omega)) (by simp [vld, h]))
  · exact ev_pos (by omega) (ev_eq (ev_some false) (by simp [vld, h]))

def bothB (p q : List Int) : Bool := decide (p.length = q.length) && vld p && vld q
theorem both_ev (p q : List Int) : Ev (fun k => partition_both.f k p q) (bothB p q) := by
  by_cases h : p.length = q.length
  · refine ev_pos (by omega) (ev_bind (valid_ev p) ?_)
    by_cases hp : vld p = true
    · exact ev_pos hp (ev_bind (valid_ev q) (ev_eq (ev_some _) (by simp [bothB, h, hp])))
    · exact ev_neg hp (ev_eq (ev_some false) (by simp [bothB, hp]))
  · exact ev_neg (by omega) (ev_eq (ev_some false) (by simp [bothB, h]))

def JB (p q : List Int) (u v : Nat) : Prop := rd p u = rd p v ∨ rd q u = rd q v
/-- r is the numbering of the least equivalence that contains those of p and q. -/
def IsJoin (p q r : List Int) : Prop := r.length = p.length ∧ vld r = true ∧ ∀ u v : Nat, u < p.length → v < p.length → (rd r u = rd r v ↔ EG (JB p q) p.length u v)
theorem isJoin_same {p q r r' : List Int} (h : IsJoin p q r) (h' : IsJoin p q r') : r = r' :=
  vld_ext h.2.1 h'.2.1 (by rw [h.1, h'.1]) (fun i j hi hj => by rw [h.2.2 i j (by rw [← h.1]; exact hi) (by rw [← h.1]; exact hj), h'.2.2 i j (by rw [← h.1]; exact hi) (by rw [← h.1]; exact hj)])
theorem join_l1 (n : Nat) (hn : n ≤ 4096) (B : Nat → Nat → Prop) (c : List Int) (hc : c.length = n) (hB : ∀ u v : Nat, u < n → v < n → rd c u = rd c v → B u v) (rows : List (List Int)) (x23 x24 x25 : Int) (hx : wrap64 (x24 + 1) = x25) (K : (Nat → Nat) → Prop) (hK : ∀ R x y, K R → K (mrg R x y)) (Good : List Int → Prop)
    (hk : ∀ f R, UF f n R → Sub R B n → K R → (∀ u v : Nat, u < n → v < n → rd c u = rd c v → R u = R v) → ∃ r, Good r ∧ Ev (fun k => partition_Join.l0 k f rows x23 x25) r) :
    ∀ (d i : Nat) (f : List Int) (R : Nat → Nat) (m : AM Int Int), n - i = d → i ≤ n → UF f n R → Sub R B n → K R → (∀ j : Nat, j < i → m.has (rd c j) = true) →
      (∀ v, m.has v = true → ∃ j : Nat, j < i ∧ rd c j = v ∧ m.get v 0 = (j : Int)) → (∀ u v : Nat, u < i → v < i → rd c u = rd c v → R u = R v) →
      ∃ r, Good r ∧ Ev (fun k => partition_Join.l1 k f rows x23 x24 c (n : Int) (i : Int) m) r := by
  intro d
  induction d with
  | zero =>
    intro i f R m hd hi hf hs hKR h1 h2 h3
    obtain ⟨r, hg, hr⟩ := hk f R hf hs hKR (fun u v hu hv e => h3 u v (by omega) (by omega) e)
    refine ⟨r, hg, Ev.step (fun _ => rfl) (ev_neg (by omega) ?_)⟩
    rw [hx]
    exact hr
  | succ d ih =>
    intro i f R m hd hi hf hs hKR h1 h2 h3
    by_cases hh : m.has (rd c i) = true
    · obtain ⟨j, hj, ej, gj⟩ := h2 _ hh
      obtain ⟨f', hf', e'⟩ := union_ev hf i j (by omega) (by omega)
      obtain ⟨r, hg, hr⟩ := ih (i + 1) f' (mrg R i j) m (by omega) (by omega) hf' (mrg_sub hs (by omega) (by omega) (.of (by omega) (by omega) (hB i j (by omega) (by omega) ej.symm))) (hK _ _ _ hKR)
        (fun t ht => by by_cases e : t = i; (· rw [e]; exact hh); exact h1 t (by omega))
        (fun v hv => by obtain ⟨t, ht, a, b⟩ := h2 v hv; exact ⟨t, by omega, a, b⟩)
        (fun u v hu hv e => by
          have hi1 : ∀ t : Nat, t < i → rd c t = rd c i → mrg R i j t = mrg R i j i := fun t ht et => by
            rw [mrg_join]; exact mrg_keep R i j (h3 t j ht hj (et.trans ej.symm))
          by_cases hu2 : u = i
          · by_cases hv2 : v = i
            · rw [hu2, hv2]
            · rw [hu2] at e ⊢; exact (hi1 v (by omega) e.symm).symm
          · by_cases hv2 : v = i
            · rw [hv2] at e ⊢; exact hi1 u (by omega) e
            · exact mrg_keep R i j (h3 u v (by omega) (by omega) e))
      refine ⟨r, hg, Ev.step (fun _ => rfl) (ev_pos (by omega) (ev_pos (by omega) (ev_pos (by omega) (ev_pos hh (ev_bind (by rw [gj]; exact e') ?_)))))⟩
      rw [wrap_succ (n := n) (by omega) (by omega)]
      exact hr
    · obtain ⟨r, hg, hr⟩ := ih (i + 1) f R (m.put (rd c i) (i : Int)) (by omega) (by omega) hf hs hKR
        (fun t ht => by rw [AM.has_put]; by_cases e : t = i; (· simp [e]); simp [h1 t (by omega)])
        (fun v hv => by
          rw [AM.has_put] at hv
          rw [AM.get_put]
          by_cases e : rd c i = v
          · exact ⟨i, by omega, e, by rw [if_pos e]⟩
          · rw [if_neg e]
            obtain ⟨t, ht, a, b⟩ := h2 v (by simpa [e] using hv)
            exact ⟨t, by omega, a, b⟩)
        (fun u v hu hv e => by
          have no : ∀ t : Nat, t < i → rd c t ≠ rd c i := fun t ht et => hh (by rw [← et]; exact h1 t ht)
          by_cases hu2 : u = i
          · by_cases hv2 : v = i
            · rw [hu2, hv2]
            · rw [hu2] at e; exact absurd e.symm (no v (by omega))
          · by_cases hv2 : v = i
            · rw [hv2] at e; exact absurd e (no u (by omega))
            · exact h3 u v (by omega) (by omega) e)
      refine ⟨r, hg, Ev.step (fun _ => rfl) (ev_pos (by omega) (ev_pos (by omega) (ev_pos (by omega) (ev_neg hh ?_))))⟩
      rw [wrap_succ (n := n) (by omega) (by omega)]
      exact hr
theorem join_l0_end {f : List Int} {rows : List (List Int)} {x23 x24 : Int} {a : List Int × List Int} (h : ¬ x24 < x23) (e : Ev (fun k => partition_forest_partition.f k f) a) : Ev (fun k => partition_Join.l0 k f rows x23 x24) a.1 :=
  Ev.step (fun _ => rfl) (ev_neg h (ev_bind e (ev_some _)))
theorem join_l0_go {f : List Int} {rows : List (List Int)} {x23 x24 : Int} {r : List Int} (h : x24 < x23) (h0 : 0 ≤ x24) (h1 : x24 < (rows.length : Int)) (e : Ev (fun k => partition_Join.l1 k f rows x23 x24 (rd_L1 rows x24) ((rd_L1 rows x24).length : Int) 0 (AM.nil : AM Int Int)) r) : Ev (fun k => partition_Join.l0 k f rows x23 x24) r :=
  Ev.step (fun _ => rfl) (ev_pos h (ev_pos h0 (ev_pos h1 e)))
theorem join_ev {p q : List Int} (h : bothB p q = true) : ∃ r, IsJoin p q r ∧ Ev (fun k => partition_Join.f k p q) r := by
  simp only [bothB, Bool.and_eq_true, decide_eq_true_eq] at h
  obtain ⟨⟨hl, hp⟩, hq⟩ := h
  have hn := vld_le hp
  have hb : bothB p q = true := by simp [bothB, hl, hp, hq]
  obtain ⟨f0, hf0, e0⟩ := newForest_ev p.length hn
  have last : ∀ f R, UF f p.length R → Sub R (JB p q) p.length → (∀ u v : Nat, u < p.length → v < p.length → rd p u = rd p v → R u = R v) → (∀ u v : Nat, u < p.length → v < p.length → rd q u = rd q v → R u = R v) →
      ∃ r, IsJoin p q r ∧ Ev (fun k => partition_Join.l0 k f [p, q] (([p, q] : List (List Int)).length : Int) 2) r := by
    intro f R hf hs h1 h2
    obtain ⟨l, f', e1, e2, e3⟩ := fpart_ev hf hn
    refine ⟨(canonL l).2, ⟨by rw [canonL_len, e1], canon_vld l (by omega), fun u v hu hv => ?_⟩, join_l0_end (by simp) e3⟩
    rw [canon_ker l u v (by omega) (by omega), e2 u hu, e2 v hv]
    constructor
    · exact fun e => hs u v hu hv (Int.ofNat.inj e)
    · intro e
      have := EG.le (g := R) (fun a b ha hb hab => by rcases hab with hab | hab; (· exact h1 a b ha hb hab); exact h2 a b ha hb hab) e
      rw [this]
  have second : ∀ f R, UF f p.length R → Sub R (JB p q) p.length → (∀ u v : Nat, u < p.length → v < p.length → rd p u = rd p v → R u = R v) →
      ∃ r, IsJoin p q r ∧ Ev (fun k => partition_Join.l0 k f [p, q] (([p, q] : List (List Int)).length : Int) 1) r := by
    intro f R hf hs h1
    obtain ⟨r, hg, hr⟩ := join_l1 p.length hn (JB p q) q hl.symm (fun u v _ _ e => .inr e) [p, q] (([p, q] : List (List Int)).length : Int) 1 2 (by rw [wrap_in (by omega) (by omega)]; rfl) (fun R => ∀ u v : Nat, u < p.length → v < p.length → rd p u = rd p v → R u = R v) (fun R x y hR u v hu hv e => mrg_keep R x y (hR u v hu hv e)) (IsJoin p q)
      (fun f R hf hs hK h2 => last f R hf hs hK h2) p.length 0 f R AM.nil (by omega) (by omega) hf hs h1 (fun j hj => by omega) (fun v hv => by rw [AM.has_nil] at hv; cases hv) (fun u v hu _ _ => by omega)
    refine ⟨r, hg, join_l0_go (by simp) (by decide) (by simp) ?_⟩
    rw [hl] at hr
    exact hr
  obtain ⟨r, hg, hr⟩ := join_l1 p.length hn (JB p q) p rfl (fun u v _ _ e => .inl e) [p, q] (([p, q] : List (List Int)).length : Int) 0 1 (by rw [wrap_in (by omega) (by omega)]; rfl) (fun _ => True) (fun _ _ _ _ => trivial) (IsJoin p q)
    (fun f R hf hs _ h2 => second f R hf hs h2) p.length 0 f0 (fun x => x) AM.nil (by omega) (by omega) hf0 (fun u v hu hv e => by have e : u = v := e; subst e; exact .refl hu) trivial (fun j hj => by omega) (fun v hv => by rw [AM.has_nil] at hv; cases hv) (fun u v hu _ _ => by omega)
  refine ⟨r, hg, ev_bind (both_ev p q) (ev_pos hb (ev_bind e0 (ev_bind0 rfl (join_l0_go (by simp) (by decide) (by simp) hr))))⟩
theorem join_no {p q : List Int} (h : ¬ bothB p q = true) : Ev (fun k => partition_Join.f k p q) [] := ev_bind (both_ev p q) (ev_neg h (ev_some _))

theorem mx_l (a b : Int) : a ≤ mx a b := by unfold mx; split <;> omega
theorem mx_r (a b : Int) : b ≤ mx a b := by unfold mx; split <;> omega
theorem mx_le {a b c : Int} (h : a ≤ c) (h' : b ≤ c) : mx a b ≤ c := by unfold mx; split <;> omega
def cntF : Int → List Int → Int
  | n, [] => n
  | n, x :: l => cntF (mx n (x + 1)) l
theorem cntF_ge : ∀ (l : List Int) (n : Int), n ≤ cntF n l
  | [], _ => Int.le_refl _
  | x :: l, n => by
    have := cntF_ge l (mx n (x + 1))
    have := mx_l n (x + 1)
    unfold cntF
    omega
theorem cntF_mem : ∀ (l : List Int) (n : Int), ∀ x ∈ l, x < cntF n l
  | [], _, x, h => by simp at h
  | y :: l, n, x, h => by
    unfold cntF
    rcases List.mem_cons.1 h with rfl | h
    · have := cntF_ge l (mx n (x + 1))
      have := mx_r n (x + 1)
      omega
    · exact cntF_mem l _ x h
theorem cntF_le : ∀ (l : List Int) (n B : Int), n ≤ B → (∀ x ∈ l, x + 1 ≤ B) → cntF n l ≤ B
  | [], _, _, h, _ => h
  | y :: l, n, B, h, h2 => by
    unfold cntF
    exact cntF_le l _ B (mx_le h (h2 y (by simp))) (fun x hx => h2 x (by simp [hx]))
def cnt (l : List Int) : Int := cntF 0 l
theorem rgs_mem : ∀ (l : List Int) (n : Nat), rgs n l = true → ∀ x ∈ l, 0 ≤ x ∧ x < n + l.length
  | [], _, _, x, h => by simp at h
  | y :: l, n, hr, x, h => by
    unfold rgs at hr
    split at hr
    · cases hr
    · rename_i hy
      rcases List.mem_cons.1 h with rfl | h
      · simp only [List.length_cons]; omega
      · have := rgs_mem l _ hr x h
        simp only [List.length_cons]
        split at this <;> omega
theorem vld_mem {l : List Int} (h : vld l = true) : l.length ≤ 4096 ∧ ∀ x ∈ l, 0 ≤ x ∧ x < 4096 := by
  unfold vld at h
  simp only [Bool.and_eq_true, decide_eq_true_eq] at h
  refine ⟨h.1, fun x hx => ?_⟩
  have := rgs_mem l 0 h.2 x hx
  omega
theorem cnt_bounds {l : List Int} (h : vld l = true) : 0 ≤ cnt l ∧ cnt l ≤ 4096 ∧ ∀ x ∈ l, x < cnt l :=
  ⟨cntF_ge l 0, cntF_le l 0 4096 (by omega) (fun x hx => by have := (vld_mem h).2 x hx; omega), cntF_mem l 0⟩

def clsF : List (List Int) → List Int → Nat → List (List Int)
  | out, [], _ => out
  | out, x :: l, i => clsF (out.set x.toNat (rd_L1 out x ++ [(i : Int)])) l (i + 1)
def cls (l : List Int) : List (List Int) := clsF (List.replicate (cnt l).toNat []) l 0
theorem clsF_length : ∀ (l : List Int) (out : List (List Int)) (i : Nat), (clsF out l i).length = out.length
  | [], _, _ => rfl
  | x :: l, out, i => by rw [clsF, clsF_length l, List.length_set]
theorem set_rows {out : List (List Int)} {i : Nat} (hl : ∀ x ∈ out, x.length ≤ i) (x : Int) (y : Int) : ∀ z ∈ out.set x.toNat (rd_L1 out x ++ [y]), z.length ≤ i + 1 := by
  intro z hz
  rcases List.mem_or_eq_of_mem_set hz with h | rfl
  · have := hl z h; omega
  · rw [List.length_append]
    have : (rd_L1 out x).length ≤ i := by
      unfold rd_L1
      rw [List.getD_eq_getElem?_getD]
      cases h : out[x.toNat]? with
      | none => simp
      | some r => exact hl r (List.mem_of_getElem? h)
    simp; omega
theorem clsF_rows : ∀ (l : List Int) (out : List (List Int)) (i : Nat), (∀ x ∈ out, x.length ≤ i) → ∀ z ∈ clsF out l i, z.length ≤ i + l.length
  | [], _, _, h, z, hz => h z hz
  | x :: l, out, i, h, z, hz => by
    have := clsF_rows l _ (i + 1) (set_rows h x _) z hz
    simp only [List.length_cons]
    omega
theorem rdL_len {out : List (List Int)} {i : Nat} (hl : ∀ x ∈ out, x.length ≤ i) (x : Int) : (rd_L1 out x).length ≤ i := by
  unfold rd_L1
  rw [List.getD_eq_getElem?_getD]
  cases h : out[x.toNat]? with
  | none => simp
  | some r => exact hl r (List.mem_of_getElem? h)

/-- The places (counted from i on) at which v stands. -/
def idx (v : Int) : List Int → Nat → List Int
  | [], _ => []
  | x :: l, i => if x = v then (i : Int) :: idx v l (i + 1) else idx v l (i + 1)
theorem mem_idx (v : Int) : ∀ (l : List Int) (i : Nat) (y : Int), y ∈ idx v l i ↔ ∃ j : Nat, j < l.length ∧ y = ((i + j : Nat) : Int) ∧ rd l j = v
  | [], i, y => by simp [idx]
  | x :: l, i, y => by
    have ih := mem_idx v l (i + 1) y
    have hs : ∀ j : Nat, rd (x :: l) ((j + 1 : Nat) : Int) = rd l (j : Int) := fun j => by
      simp only [rd, Int.toNat_natCast, List.getD_cons_succ]
    have hz : rd (x :: l) ((0 : Nat) : Int) = x := rfl
    have key : (∃ j : Nat, j < (x :: l).length ∧ y = ((i + j : Nat) : Int) ∧ rd (x :: l) j = v) ↔ (y = (i : Int) ∧ x = v) ∨ ∃ j : Nat, j < l.length ∧ y = ((i + 1 + j : Nat) : Int) ∧ rd l j = v := by
      constructor
      · rintro ⟨j, hj, hy, hv⟩
        cases j with
        | zero => exact .inl ⟨by simpa using hy, hv⟩
        | succ j => exact .inr ⟨j, by simpa using hj, by rw [hy]; omega, by rw [← hs]; exact hv⟩
      · rintro (⟨hy, hv⟩ | ⟨j, hj, hy, hv⟩)
        · exact ⟨0, by simp, by simpa using hy, hv⟩
        · exact ⟨j + 1, by simpa using hj, by rw [hy]; omega, by rw [hs]; exact hv⟩
    rw [key, idx]
    split
    · rename_i h
      rw [List.mem_cons, ih]
      simp [h]
    · rename_i h
      rw [ih]
      simp [h]
theorem rdL_set (out : List (List Int)) (x v : Int) (hx : 0 ≤ x) (hv : 0 ≤ v) (hl : x < out.length) (r : List Int) : rd_L1 (out.set x.toNat r) v = if x = v then r else rd_L1 out v := by
  obtain ⟨a, rfl⟩ := Int.eq_ofNat_of_zero_le hx
  obtain ⟨b, rfl⟩ := Int.eq_ofNat_of_zero_le hv
  simp only [Int.toNat_natCast, rd_L1, List.getD_eq_getElem?_getD, List.getElem?_set]
  by_cases h : a = b
  · subst h
    have hl' : a < out.length := by omega
    simp [hl']
  · have h' : ¬ ((a : Int) = (b : Int)) := by omega
    rw [if_neg h, if_neg h']
theorem clsF_row : ∀ (l : List Int) (out : List (List Int)) (i : Nat) (v : Int), 0 ≤ v → (∀ x ∈ l, 0 ≤ x ∧ x < out.length) → rd_L1 (clsF out l i) v = rd_L1 out v ++ idx v l i
  | [], out, i, v, _, _ => by simp [clsF, idx]
  | x :: l, out, i, v, hv, hm => by
    have hx := hm x (by simp)
    rw [clsF, clsF_row l _ (i + 1) v hv (fun y hy => by rw [List.length_set]; exact hm y (by simp [hy])), rdL_set out x v hx.1 hv hx.2, idx]
    split
    · rename_i h
      subst h
      simp
    · rfl
theorem cls_row {l : List Int} (h : vld l = true) (v : Int) (hv : 0 ≤ v) : rd_L1 (cls l) v = idx v l 0 := by
  have hc := cnt_bounds h
  rw [cls, clsF_row l _ 0 v hv (fun x hx => ⟨((vld_mem h).2 x hx).1, by have := hc.2.2 x hx; simp; omega⟩)]
  have : rd_L1 (List.replicate (cnt l).toNat []) v = [] := by
    unfold rd_L1
    rw [List.getD_eq_getElem?_getD, List.getElem?_replicate]
    split <;> rfl
  rw [this, List.nil_append]
theorem cls_length {l : List Int} (h : vld l = true) : (cls l).length = (cnt l).toNat := by rw [cls, clsF_length, List.length_replicate]

/-- Neighbours in a list. -/
def adj : List Int → List S42
  | [] => []
  | [_] => []
  | x :: y :: t => ⟨x, y⟩ :: adj (y :: t)
theorem adj_mem : ∀ (c : List Int) (x : S42), x ∈ adj c → x.f0 ∈ c ∧ x.f1 ∈ c
  | [], x, h => by simp [adj] at h
  | [_], x, h => by simp [adj] at h
  | a :: b :: t, x, h => by
    simp only [adj, List.mem_cons] at h
    rcases h with rfl | h
    · exact ⟨by simp, by simp⟩
    · obtain ⟨h1, h2⟩ := adj_mem (b :: t) x h
      exact ⟨List.mem_cons_of_mem _ h1, List.mem_cons_of_mem _ h2⟩
theorem adj_conn {B : Nat → Nat → Prop} {n : Nat} : ∀ (c : List Int), (∀ x ∈ c, 0 ≤ x ∧ x < n) → (∀ x ∈ adj c, ∀ u v : Nat, x.f0 = (u : Int) → x.f1 = (v : Int) → B u v) → ∀ u v : Nat, (u : Int) ∈ c → (v : Int) ∈ c → EG B n u v
  | [], _, _, u, _, hu, _ => by simp at hu
  | [a], hc, _, u, v, hu, hv => by
    simp only [List.mem_singleton] at hu hv
    have e : u = v := by omega
    subst e
    have := hc a (by simp)
    exact .refl (by omega)
  | a :: b :: t, hc, hB, u, v, hu, hv => by
    have ih := adj_conn (b :: t) (fun x hx => hc x (List.mem_cons_of_mem _ hx)) (fun x hx => hB x (by simp only [adj]; exact List.mem_cons_of_mem _ hx))
    have ha := hc a (by simp)
    have hb := hc b (by simp)
    obtain ⟨a', rfl⟩ : ∃ a' : Nat, a = (a' : Int) := ⟨a.toNat, by omega⟩
    obtain ⟨b', rfl⟩ : ∃ b' : Nat, b = (b' : Int) := ⟨b.toNat, by omega⟩
    have hab : EG B n a' b' := .of (by omega) (by omega) (hB ⟨(a' : Int), (b' : Int)⟩ (by simp [adj]) a' b' rfl rfl)
    have one : ∀ w : Nat, (w : Int) ∈ (a' : Int) :: (b' : Int) :: t → EG B n w b' := fun w hw => by
      rcases List.mem_cons.1 hw with e | hw
      · have : w = a' := Int.ofNat.inj e
        rw [this]; exact hab
      · exact ih w b' hw (by simp)
    exact .trans (one u hu) (.symm (one v hv))
def ownPairs (p : List Int) : List S42 := (cls p).flatMap adj
theorem class_mem {p : List Int} (h : vld p = true) (i : Nat) (hi : i < (cls p).length) (y : Int) (hy : y ∈ (cls p)[i]) : ∃ j : Nat, j < p.length ∧ y = (j : Int) ∧ rd p j = (i : Int) := by
  have e : (cls p)[i] = idx (i : Int) p 0 := by
    rw [← cls_row h (i : Int) (by omega)]; simp [rd_L1, List.getD, hi]
  rw [e] at hy
  obtain ⟨j, h1, h2, h3⟩ := (mem_idx (i : Int) p 0 y).1 hy
  exact ⟨j, h1, by rw [h2, Nat.zero_add], h3⟩
theorem ownPairs_ok {p : List Int} (h : vld p = true) : ∀ x ∈ ownPairs p, okP p.length x = true ∧ ∀ u v : Nat, x.f0 = (u : Int) → x.f1 = (v : Int) → rd p u = rd p v := by
  intro x hx
  obtain ⟨c, hc, hx⟩ := List.mem_flatMap.1 hx
  obtain ⟨i, hi, rfl⟩ := List.getElem_of_mem hc
  obtain ⟨m0, m1⟩ := adj_mem _ x hx
  obtain ⟨a, ha, ea, ra⟩ := class_mem h i hi _ m0
  obtain ⟨b, hb, eb, rb⟩ := class_mem h i hi _ m1
  refine ⟨by simp only [okP, decide_eq_true_eq]; omega, fun u v hu hv => ?_⟩
  rw [ea] at hu
  rw [eb] at hv
  rw [← Int.ofNat.inj hu, ← Int.ofNat.inj hv, ra, rb]
theorem ownPairs_eg {p : List Int} (h : vld p = true) (u v : Nat) (hu : u < p.length) (hv : v < p.length) : rd p u = rd p v ↔ EG (PB (ownPairs p)) p.length u v := by
  constructor
  · intro e
    have hmem : rd p u ∈ p := by rw [rd_at p u hu]; exact List.getElem_mem hu
    have hb := cnt_bounds h
    have h0 := (vld_mem h).2 _ hmem
    have h1 := hb.2.2 _ hmem
    have hlen := cls_length h
    have hi : (rd p u).toNat < (cls p).length := by rw [hlen]; omega
    have ei : (((rd p u).toNat : Nat) : Int) = rd p u := by omega
    have ec : (cls p)[(rd p u).toNat] = idx (rd p u) p 0 := by
      rw [← cls_row h (rd p u) h0.1]; simp [rd_L1, List.getD, hi]
    refine adj_conn (cls p)[(rd p u).toNat] (fun x hx => ?_) (fun x hx a b ha hb => ⟨x, List.mem_flatMap.2 ⟨_, List.getElem_mem hi, hx⟩, ha, hb⟩) u v ?_ ?_
    · obtain ⟨j, hj, rfl, _⟩ := class_mem h _ hi x hx
      omega
    · rw [ec, mem_idx]; exact ⟨u, hu, by rw [Nat.zero_add], rfl⟩
    · rw [ec, mem_idx]; exact ⟨v, hv, by rw [Nat.zero_add], e.symm⟩
  · exact EG.le (g := fun u : Nat => rd p u) (fun a b ha hb hab => by
      obtain ⟨x, hx, h1, h2⟩ := hab
      exact (ownPairs_ok h x hx).2 a b h1 h2)

theorem count_l0 (l : List Int) (hn : l.length ≤ 4096) (hm : ∀ x ∈ l, 0 ≤ x ∧ x < 4096) : ∀ (d i : Nat) (n : Int), l.length - i = d → i ≤ l.length → Ev (fun k => partition_Count.l0 k n l (l.length : Int) (i : Int)) (cntF n (l.drop i)) := by
  intro d
  induction d with
  | zero =>
    intro i n hd hi
    refine Ev.step (fun _ => rfl) (ev_neg (by omega) (ev_eq (ev_some n) ?_))
    rw [List.drop_of_length_le (by omega)]
    rfl
  | succ d ih =>
    intro i n hd hi
    have hlt : i < l.length := by omega
    rw [List.drop_eq_getElem_cons hlt]
    have hx := hm l[i] (List.getElem_mem hlt)
    refine Ev.step (fun _ => rfl) (ev_pos (by omega) (ev_pos (by omega) (ev_pos (by omega) ?_)))
    rw [rd_at l i hlt, wrap_succ hlt (by omega), wrap_in (by omega) (by omega)]
    exact ih (i + 1) _ (by omega) (by omega)
theorem count_ev (l : List Int) : Ev (fun k => partition_Count.f k l) (if vld l = true then cnt l else 0) := by
  refine ev_bind (valid_ev l) ?_
  by_cases h : vld l = true
  · have hv := vld_mem h
    simp only [h, if_true]
    exact count_l0 l hv.1 hv.2 _ 0 0 rfl (by omega)
  · simp only [h, Bool.false_eq_true, if_false]
    exact ev_some 0

theorem classes_l0 (l : List Int) (hn : l.length ≤ 4096) (c : Nat) (hm : ∀ x ∈ l, 0 ≤ x ∧ x < c) : ∀ (d i : Nat) (out : List (List Int)), l.length - i = d → i ≤ l.length → out.length = c → (∀ x ∈ out, x.length ≤ i) →
    Ev (fun k => partition_Classes.l0 k out l (l.length : Int) (i : Int)) (clsF out (l.drop i) i) := by
  intro d
  induction d with
  | zero =>
    intro i out hd hi hc hr
    refine Ev.step (fun _ => rfl) (ev_neg (by omega) (ev_eq (ev_some out) ?_))
    rw [List.drop_of_length_le (by omega)]
    rfl
  | succ d ih =>
    intro i out hd hi hc hr
    have hlt : i < l.length := by omega
    rw [List.drop_eq_getElem_cons hlt]
    have hx := hm l[i] (List.getElem_mem hlt)
    have hw := rdL_len hr l[i]
    refine Ev.step (fun _ => rfl) (ev_pos (by omega) (ev_pos (by omega) (ev_pos (by omega) ?_)))
    rw [rd_at l i hlt, wrap_succ hlt (by omega)]
    refine ev_pos (by omega) (ev_pos (by omega) (ev_pos (by omega) ?_))
    exact ih (i + 1) _ (by omega) (by omega) (by rw [List.length_set, hc]) (set_rows hr _ _)
theorem classes_ev (l : List Int) : Ev (fun k => partition_Classes.f k l) (if vld l = true then cls l else []) := by
  refine ev_bind (valid_ev l) ?_
  by_cases h : vld l = true
  · have hv := vld_mem h
    have hc := cnt_bounds h
    have he := count_ev l
    simp only [h, if_true] at he ⊢
    refine ev_bind he (ev_pos (by omega) (ev_pos (by omega) ?_))
    exact classes_l0 l hv.1 (cnt l).toNat (fun x hx => ⟨(hv.2 x hx).1, by have := hc.2.2 x hx; omega⟩) _ 0 _ rfl (by omega) (by simp) (fun x hx => by rw [List.eq_of_mem_replicate hx]; simp)
  · simp only [h, Bool.false_eq_true, if_false]
    exact ev_some []

theorem refvalid_ev (l : List Int) : Ev (fun k => semigroupref03_Valid.f k l) (vld l) := by
  by_cases h : l.length ≤ 4096
  · refine ev_pos (by omega) (ev_bind0 (a := (canonL l).2) (by rw [semigroupref03_Canonical.f, if_neg (by omega)]) (ev_bind (same_ev _ _ (by omega)) (ev_eq (ev_some _) ?_)))
    have hc := canon_id l
    have e : (decide (l = (canonL l).2)) = rgs 0 l := by
      rw [Bool.eq_iff_iff, ← hc, decide_eq_true_iff]
      exact eq_comm
    rw [e]
    simp [vld, h]
  · exact ev_neg (by omega) (ev_eq (ev_some false) (by simp [vld, h]))

theorem EG.mono {B B' : Nat → Nat → Prop} {n : Nat} (h : ∀ u v, u < n → v < n → B u v → EG B' n u v) {u v : Nat} (e : EG B n u v) : EG B' n u v := by
  induction e with
  | of hx hy hB => exact h _ _ hx hy hB
  | refl hx => exact .refl hx
  | symm _ ih => exact .symm ih
  | trans _ _ i1 i2 => exact .trans i1 i2
theorem joins_pairs {n : Nat} {a b : List S42} {ra rb r j : List Int} (ha : IsPairs n a ra) (hb : IsPairs n b rb) (hr : IsPairs n (a ++ b) r) (hj : IsJoin ra rb j) : r = j := by
  have la := ha.1
  have lb := hb.1
  have lr := hr.1
  have lj := hj.1
  refine vld_ext hr.2.1 hj.2.1 (by omega) (fun u v hu hv => ?_)
  rw [hr.2.2 u v (by omega) (by omega), hj.2.2 u v (by omega) (by omega), la]
  constructor
  · refine EG.mono (fun x y hx hy hxy => ?_)
    obtain ⟨z, hz, h0, h1⟩ := hxy
    rcases List.mem_append.1 hz with hz | hz
    · exact .of hx hy (.inl ((ha.2.2 x y hx hy).2 (.of hx hy ⟨z, hz, h0, h1⟩)))
    · exact .of hx hy (.inr ((hb.2.2 x y hx hy).2 (.of hx hy ⟨z, hz, h0, h1⟩)))
  · refine EG.mono (fun x y hx hy hxy => ?_)
    rcases hxy with hxy | hxy
    · exact EG.mono (fun x y hx hy h => by obtain ⟨z, hz, h0, h1⟩ := h; exact .of hx hy ⟨z, List.mem_append_left _ hz, h0, h1⟩) ((ha.2.2 x y hx hy).1 hxy)
    · exact EG.mono (fun x y hx hy h => by obtain ⟨z, hz, h0, h1⟩ := h; exact .of hx hy ⟨z, List.mem_append_right _ hz, h0, h1⟩) ((hb.2.2 x y hx hy).1 hxy)
/-- The neighbours of a class, from place i on. -/
theorem own_l1 (p : List Int) (c : List Int) (hc : c.length ≤ 4096) (rows : List (List Int)) (n x76 : Int) (r : Bool) : ∀ (d i : Nat) (o : List S42), c.length - (i + 1) = d → o.length + (c.length - (i + 1)) ≤ 8000000000 →
    Ev (fun k => semigrouplaw03_PartitionJoins.l0 k p (o ++ adj (c.drop i)) rows n (wrap64 (x76 + 1))) r →
    Ev (fun k => semigrouplaw03_PartitionJoins.l1 k p o c ((i + 1 : Nat) : Int) rows n x76) r := by
  intro d
  induction d with
  | zero =>
    intro i o hd ho h
    have e : adj (c.drop i) = [] := by
      have hl : (c.drop i).length ≤ 1 := by rw [List.length_drop]; omega
      match hh : c.drop i, hl with
      | [], _ => rfl
      | [_], _ => rfl
      | _ :: _ :: _, hl => simp at hl
    rw [e, List.append_nil] at h
    exact Ev.step (fun _ => rfl) (ev_neg (by omega) h)
  | succ d ih =>
    intro i o hd ho h
    have hi1 : i + 1 < c.length := by omega
    have e1 : c.drop i = rd c i :: c.drop (i + 1) := by rw [rd_at c i (by omega)]; exact List.drop_eq_getElem_cons (by omega)
    have e2 : c.drop (i + 1) = rd c ((i + 1 : Nat) : Int) :: c.drop (i + 1 + 1) := by rw [rd_at c (i + 1) hi1]; exact List.drop_eq_getElem_cons hi1
    have w1 : wrap64 (((i + 1 : Nat) : Int) - 1) = (i : Int) := by rw [wrap_in (by omega) (by omega)]; omega
    refine Ev.step (fun _ => rfl) (ev_pos (by omega) (ev_pos (by omega) (ev_pos (by omega) (ev_pos (by omega) (ev_pos (by omega) ?_)))))
    rw [w1, wrap_succ (n := c.length) (by omega) (by omega)]
    refine ih (i + 1) _ (by omega) (by rw [List.length_append]; simp only [List.length_cons, List.length_nil]; omega) ?_
    rw [List.append_assoc, List.singleton_append]
    rw [e1, e2] at h
    rw [e2]
    exact h
theorem own_l0 (p : List Int) (rows : List (List Int)) (hr : rows.length ≤ 4096) (hc : ∀ c ∈ rows, c.length ≤ 4096) (r : Bool) : ∀ (d i : Nat) (o : List S42), rows.length - i = d → i ≤ rows.length → o.length ≤ 4096 * i →
    (Ev (fun k => (partition_FromPairs.f k (p.length : Int) (o ++ (rows.drop i).flatMap adj)).bind fun t214 => ((semigroupref03_Same.f k t214 p).bind fun t217 => (if t217 = true then ((semigrouplaw03_awake.f k).bind fun t218 => (some t218)) else (some false)))) r) →
    Ev (fun k => semigrouplaw03_PartitionJoins.l0 k p o rows (rows.length : Int) (i : Int)) r := by
  intro d
  induction d with
  | zero =>
    intro i o hd hi ho h
    rw [show rows.drop i = [] from List.drop_eq_nil_of_le (by omega), List.flatMap_nil, List.append_nil] at h
    exact Ev.step (fun _ => rfl) (ev_neg (by omega) h)
  | succ d ih =>
    intro i o hd hi ho h
    have hil : i < rows.length := by omega
    have e : rd_L1 rows (i : Int) = rows[i] := by simp [rd_L1, List.getD, hil]
    have hcl := hc _ (List.getElem_mem hil)
    have hadj : ∀ c : List Int, (adj c).length ≤ c.length := by
      intro c
      match c with
      | [] => simp [adj]
      | [_] => simp [adj]
      | x :: y :: t =>
        have : ∀ (t : List Int) (y : Int), (adj (y :: t)).length ≤ t.length := by
          intro t
          induction t with
          | nil => intro y; simp [adj]
          | cons z t ih => intro y; simp only [adj, List.length_cons]; have := ih z; omega
        have := this (y :: t) x
        simp only [List.length_cons] at this ⊢
        omega
    refine Ev.step (fun _ => rfl) (ev_pos (by omega) (ev_pos (by omega) (ev_pos (by omega) ?_)))
    rw [e]
    refine own_l1 p rows[i] hcl rows _ _ r _ 0 o rfl (by omega) ?_
    rw [List.drop_zero, wrap_succ (n := rows.length) (by omega) (by omega)]
    refine ih (i + 1) _ (by omega) (by omega) (by rw [List.length_append]; have := hadj rows[i]; omega) ?_
    rw [List.drop_eq_getElem_cons hil, List.flatMap_cons] at h
    rw [List.append_assoc]
    exact h
theorem PartitionJoins : semigrouplaw03_PartitionJoins.Pure := by
  intro n a b p hn ha hb _
  have la : a.length ≤ 140737488355328 := by have := ha.1; omega
  have lb : b.length ≤ 140737488355328 := by have := hb.1; omega
  have no : ∀ x : Bool, x = true → Ev (fun k => semigrouplaw03_PartitionJoins.j0 k n a b p x) true := fun x e => Ev.step (fun _ => rfl) (ev_pos e (ev_bind awake_ev (ev_some _)))
  have no2 : ∀ x : Bool, x = true → Ev (fun k => semigrouplaw03_PartitionJoins.j2 k p x) true := fun x e => Ev.step (fun _ => rfl) (ev_pos e (ev_bind awake_ev (ev_some _)))
  have yes2 : vld p = true → ∀ x : Bool, x = false → Ev (fun k => semigrouplaw03_PartitionJoins.j2 k p x) true := fun hp x e => by
    have hv := vld_le hp
    have hb := cnt_bounds hp
    have hcl := classes_ev p
    rw [if_pos hp] at hcl
    have hlen := cls_length hp
    have hok := ownPairs_ok hp
    have hrows : ∀ c ∈ cls p, c.length ≤ 4096 := fun c hc => by
      have := clsF_rows p (List.replicate (cnt p).toNat []) 0 (fun x hx => by rw [(List.mem_replicate.1 hx).2]; simp) c hc
      omega
    have hol : (ownPairs p).length ≤ 140737488355328 := by
      have : ∀ rows : List (List Int), (∀ c ∈ rows, c.length ≤ 4096) → (rows.flatMap adj).length ≤ 4096 * rows.length := by
        intro rows
        induction rows with
        | nil => simp
        | cons c rows ih =>
          intro h
          have h1 := ih (fun x hx => h x (List.mem_cons_of_mem _ hx))
          have h2 := h c (by simp)
          have hadj : ∀ (t : List Int), (adj t).length ≤ t.length := by
            intro t
            match t with
            | [] => simp [adj]
            | y :: t =>
              have : ∀ (t : List Int) (y : Int), (adj (y :: t)).length ≤ t.length := by
                intro t
                induction t with
                | nil => intro y; simp [adj]
                | cons z t ih => intro y; simp only [adj, List.length_cons]; have := ih z; omega
              have := this t y
              simp only [List.length_cons]; omega
          have h3 := hadj c
          rw [List.flatMap_cons, List.length_append, List.length_cons]
          omega
      have := this (cls p) hrows
      unfold ownPairs
      omega
    obtain ⟨r, hr, er⟩ := pairs_ev (p.length : Int) (ownPairs p) hol
    have hm : mayP (p.length : Int) (ownPairs p) = true := by
      simp only [mayP, Bool.and_eq_true, decide_eq_true_eq, List.all_eq_true, Int.toNat_natCast]
      exact ⟨by omega, fun x hx => (hok x hx).1⟩
    rw [if_pos hm, Int.toNat_natCast] at hr
    have e3 : r = p := vld_ext hr.2.1 hp hr.1 (fun u v hu hv => by
      rw [hr.2.2 u v (by rw [← hr.1]; exact hu) (by rw [← hr.1]; exact hv)]
      exact (ownPairs_eg hp u v (by rw [← hr.1]; exact hu) (by rw [← hr.1]; exact hv)).symm)
    refine Ev.step (fun _ => rfl) (ev_neg (by simp [e]) (ev_bind hcl ?_))
    refine own_l0 p (cls p) (by omega) hrows true _ 0 [] rfl (by omega) (by simp) ?_
    rw [List.nil_append, List.drop_zero]
    exact ev_bind er (ev_bind (same_ev _ _ (by rw [hr.1]; omega)) (ev_pos (by simp [e3]) (ev_bind awake_ev (ev_some _))))
  have J1 : ∀ x : Bool, x = false → Ev (fun k => semigrouplaw03_PartitionJoins.j1 k p x) true := fun x e => by
    refine Ev.step (fun _ => rfl) (ev_neg (by simp [e]) (ev_bind (refvalid_ev p) ?_))
    by_cases hp : vld p = true
    · refine ev_pos hp ?_
      by_cases h1 : (p.length : Int) > 100
      · exact no2 _ (by simp; omega)
      · exact yes2 hp _ (by simp; omega)
    · exact ev_neg hp (no2 _ rfl)
  refine Ev.rounds (ev_bind (may_ev n a la) ?_)
  by_cases h1 : ¬ mayP n a = true
  · exact ev_neg h1 (no _ rfl)
  have h1 := Decidable.not_not.1 h1
  refine ev_pos h1 (ev_bind (may_ev n b lb) ?_)
  by_cases h2 : ¬ mayP n b = true
  · exact ev_neg h2 (no _ rfl)
  have h2 := Decidable.not_not.1 h2
  refine ev_pos h2 ?_
  by_cases g1 : n > 100
  · exact ev_pos g1 (no _ rfl)
  refine ev_neg g1 ?_
  by_cases g2 : (a.length : Int) > 100
  · exact ev_pos g2 (no _ rfl)
  refine ev_neg g2 ?_
  by_cases g3 : (b.length : Int) > 100
  · exact no _ (by simp; omega)
  obtain ⟨ra, hra, ea⟩ := pairs_ev n a la
  obtain ⟨rb, hrb, eb⟩ := pairs_ev n b lb
  obtain ⟨r, hr, er⟩ := pairs_ev n (a ++ b) (by rw [List.length_append]; omega)
  have h3 : mayP n (a ++ b) = true := by
    simp only [mayP, Bool.and_eq_true, decide_eq_true_eq, List.all_append] at h1 h2 ⊢
    exact ⟨h1.1, h1.2, h2.2⟩
  have h1' := h1
  simp only [mayP, Bool.and_eq_true, decide_eq_true_eq] at h1'
  rw [if_pos h1] at hra
  rw [if_pos h2] at hrb
  rw [if_pos h3] at hr
  obtain ⟨j, hj, ej⟩ := join_ev (p := ra) (q := rb) (by simp [bothB, hra.1, hrb.1, hra.2.1, hrb.2.1])
  have e4 := joins_pairs hra hrb hr hj
  have J0 : ∀ x : Bool, x = false → Ev (fun k => semigrouplaw03_PartitionJoins.j0 k n a b p x) true := fun x e =>
    Ev.step (fun _ => rfl) (ev_neg (by simp [e]) (ev_bind0 rfl (ev_pos (by simp; omega) (ev_bind0 rfl (ev_pos (by simp; omega) (ev_bind ea (ev_bind eb (ev_bind ej (ev_pos (by rw [hj.1, hra.1]; omega) (ev_bind (by rw [List.nil_append]; exact er) (ev_bind (same_ev _ _ (by rw [hr.1]; omega)) (J1 _ (by simp [e4])))))))))))))
  exact J0 _ (by simp; omega)

end Go.Proofs.Ytjpghckijecdcaa.Pure
