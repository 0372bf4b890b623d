/- partition.FromPairs gives of any number of points and any pairs of points what the reference gives (at most 100 points and 200 pairs), and nothing if a point isn't there; no condition. -/
import Derived.Test.YtjpghckijecdcaaQPartitionPairs
namespace Go.Proofs.Ytjpghckijecdcaa.Pure
open Go.RowKit Go.Proofs.Ytjpghckijecdcaa.PPartitionPairs Go.Proofs.YtjpghckijecdcaaW.PrintWords Go.Proofs.YtjpghckijecdcaaW.PrintLast Go.Proofs.YtjpghckijecdcaaH
set_option linter.unusedVariables false
set_option linter.unusedSimpArgs false

theorem same_l0 (a b : List Int) (hab : a.length = b.length) (hn : a.length ≤ 140737488355328) : ∀ (d i : Nat), a.length - i = d → i ≤ a.length → a.take i = b.take i →
    Ev (fun k => semigroupref03_Same.l0 k a b (a.length : Int) (i : Int)) (decide (a = b)) := by
  intro d
  induction d with
  | zero =>
    intro i hd hi ht
    refine Ev.step (fun _ => rfl) (ev_neg (by omega) (ev_eq (ev_some true) ?_))
    have h1 : a.take i = a := List.take_of_length_le (by omega)
    have h2 : b.take i = b := List.take_of_length_le (by omega)
    rw [h1, h2] at ht
    simp [ht]
  | succ d ih =>
    intro i hd hi ht
    have hlt : i < a.length := by omega
    refine Ev.step (fun _ => rfl) (ev_pos (by omega) (ev_pos (by omega) (ev_pos (by omega) (ev_pos (by omega) ?_))))
    rw [rd_at a i hlt, rd_at b i (by omega)]
    by_cases h : a[i] = b[i]
    · refine ev_pos h ?_
      rw [wrap_succ hlt hn]
      exact ih (i + 1) (by omega) (by omega) (by rw [List.take_succ_eq_append_getElem hlt, List.take_succ_eq_append_getElem (by omega), ht, h])
    · refine ev_neg h (ev_eq (ev_some false) ?_)
      symm
      rw [decide_eq_false_iff_not]
      rintro rfl
      exact h rfl
theorem same_ev (a b : List Int) (hn : a.length ≤ 140737488355328) : Ev (fun k => semigroupref03_Same.f k a b) (decide (a = b)) := by
  by_cases h : a.length = b.length
  · exact ev_pos (by omega) (same_l0 a b h hn _ 0 rfl (by omega) (by simp))
  · refine ev_neg (by omega) (ev_eq (ev_some false) ?_)
    symm
    rw [decide_eq_false_iff_not]
    rintro rfl
    exact h rfl

theorem awake_ev : Ev (fun k => semigrouplaw03_awake.f k) true := by
  refine ev_bind0 (a := [0, 1, 0]) (by decide) (ev_bind (same_ev _ _ (by simp)) (ev_eq (ev_some _) (by simp)))

def vld (l : List Int) : Bool := decide (l.length ≤ 4096) && rgs 0 l

theorem rd_take (l : List Int) (i j : Nat) (h : j < i) : rd (l.take i) (j : Int) = rd l (j : Int) := by
  simp [rd, List.getD, List.getElem?_take, h]
theorem rd_snoc_lt (l : List Int) (x : Int) (j : Nat) (h : j < l.length) : rd (l ++ [x]) (j : Int) = rd l (j : Int) := by
  simp [rd, List.getD, List.getElem?_append_left h]
theorem rd_snoc_eq (l : List Int) (x : Int) : rd (l ++ [x]) (l.length : Int) = x := by simp [rd, List.getD]
def CanInv (l : List Int) (m : List (Int × Int)) (o : List Int) : Prop :=
  o.length = l.length ∧ (∀ j : Nat, j < l.length → mget m (rd l j) = some (rd o j)) ∧ (∀ x k, mget m x = some k → ∃ j : Nat, j < l.length ∧ rd l j = x) ∧
  (∀ x y k, mget m x = some k → mget m y = some k → x = y) ∧ (∀ x k, mget m x = some k → 0 ≤ k ∧ k < m.length)
theorem canInv_step {l : List Int} {m : List (Int × Int)} {o : List Int} (h : CanInv l m o) (x : Int) : CanInv (l ++ [x]) (canonStep (m, o) x).1 (canonStep (m, o) x).2 := by
  obtain ⟨h1, h2, h3, h4, h5⟩ := h
  cases hx : mget m x with
  | some k =>
    have e : canonStep (m, o) x = (m, o ++ [k]) := by simp [canonStep, hx]
    rw [e]
    refine ⟨by simp [h1], fun j hj => ?_, fun y k' hy => ?_, h4, h5⟩
    · by_cases hl : j < l.length
      · rw [rd_snoc_lt l x j hl, rd_snoc_lt o k j (by omega)]; exact h2 j hl
      · have : j = l.length := by simp at hj; omega
        subst this
        rw [rd_snoc_eq, ← h1, rd_snoc_eq]; exact hx
    · obtain ⟨j, hj, e⟩ := h3 y k' hy
      exact ⟨j, by simp; omega, by rw [rd_snoc_lt l x j hj]; exact e⟩
  | none =>
    have e : canonStep (m, o) x = (mput m x m.length, o ++ [(m.length : Int)]) := by simp [canonStep, hx]
    rw [e]
    have hlen : (mput m x (m.length : Int)).length = m.length + 1 := by rw [mput_length, hx]; rfl
    refine ⟨by simp [h1], fun j hj => ?_, fun y k' hy => ?_, fun y z k' hy hz => ?_, fun y k' hy => ?_⟩
    · by_cases hl : j < l.length
      · rw [rd_snoc_lt l x j hl, rd_snoc_lt o _ j (by omega)]
        have := h2 j hl
        rw [mget_put, if_neg (fun he => by rw [he, this] at hx; cases hx)]
        exact this
      · have : j = l.length := by simp at hj; omega
        subst this
        rw [rd_snoc_eq, ← h1, rd_snoc_eq, mget_put, if_pos rfl]
    · rw [mget_put] at hy
      split at hy
      · rename_i e; exact ⟨l.length, by simp, by rw [rd_snoc_eq]; exact e⟩
      · obtain ⟨j, hj, e⟩ := h3 y k' hy
        exact ⟨j, by simp; omega, by rw [rd_snoc_lt l x j hj]; exact e⟩
    · rw [mget_put] at hy hz
      split at hy
      · rename_i ey
        split at hz
        · rename_i ez; exact ey.symm.trans ez
        · injection hy with hy; have := h5 z k' hz; omega
      · split at hz
        · injection hz with hz; have := h5 y k' hy; omega
        · exact h4 y z k' hy hz
    · show _ ∧ k' < (((mput m x (m.length : Int)).length : Nat) : Int)
      rw [mget_put] at hy
      split at hy
      · injection hy with hy; omega
      · have := h5 y k' hy; omega
theorem canInv_take (l : List Int) : ∀ i : Nat, i ≤ l.length → CanInv (l.take i) (canonL (l.take i)).1 (canonL (l.take i)).2
  | 0, _ => ⟨rfl, fun j hj => by simp at hj, fun x k h => by simp [canonL, mget_nil] at h, fun x y k h => by simp [canonL, mget_nil] at h, fun x k h => by simp [canonL, mget_nil] at h⟩
  | i + 1, h => by
    rw [take_snoc_rd l i (by omega), canonL_snoc]
    exact canInv_step (canInv_take l i (by omega)) _
theorem canInv (l : List Int) : CanInv l (canonL l).1 (canonL l).2 := by have := canInv_take l l.length (Nat.le_refl _); rwa [List.take_length] at this
/-- The numbering keeps what is equal. -/
theorem canon_ker (l : List Int) (i j : Nat) (hi : i < l.length) (hj : j < l.length) : rd (canonL l).2 i = rd (canonL l).2 j ↔ rd l i = rd l j := by
  obtain ⟨_, h2, _, h4, _⟩ := canInv l
  constructor
  · intro e
    exact h4 _ _ _ (h2 i hi) (by rw [h2 j hj, e])
  · intro e
    have h := h2 i hi
    rw [e, h2 j hj] at h
    exact (Option.some.inj h).symm
theorem canon_same_take (a b : List Int) (hl : a.length = b.length) (h : ∀ i j : Nat, i < a.length → j < a.length → (rd a i = rd a j ↔ rd b i = rd b j)) :
    ∀ i : Nat, i ≤ a.length → (canonL (a.take i)).2 = (canonL (b.take i)).2 ∧ (canonL (a.take i)).1.length = (canonL (b.take i)).1.length
  | 0, _ => ⟨rfl, rfl⟩
  | i + 1, hi => by
    obtain ⟨e1, e2⟩ := canon_same_take a b hl h i (by omega)
    obtain ⟨_, a2, a3, _, _⟩ := canInv_take a i (by omega)
    obtain ⟨_, b2, b3, _, _⟩ := canInv_take b i (by omega)
    have la : (a.take i).length = i := by simp; omega
    have lb : (b.take i).length = i := by simp; omega
    rw [take_snoc_rd a i (by omega), take_snoc_rd b i (by omega), canonL_snoc, canonL_snoc]
    unfold canonStep
    cases ha : mget (canonL (a.take i)).1 (rd a i) with
    | some k =>
      obtain ⟨j, hj, e⟩ := a3 _ _ ha
      rw [la] at hj
      rw [rd_take a i j hj] at e
      have eb := (h j i (by omega) (by omega)).1 e
      have h1 := a2 j (by omega)
      have h2 := b2 j (by omega)
      rw [rd_take a i j hj, e, ha] at h1
      rw [rd_take b i j hj, eb, ← e1, ← Option.some.inj h1] at h2
      rw [h2]
      exact ⟨by simp [e1], e2⟩
    | none =>
      cases hb : mget (canonL (b.take i)).1 (rd b i) with
      | some k =>
        obtain ⟨j, hj, e⟩ := b3 _ _ hb
        rw [lb] at hj
        rw [rd_take b i j hj] at e
        have ea := (h j i (by omega) (by omega)).2 e
        have h1 := a2 j (by omega)
        rw [rd_take a i j hj, ea, ha] at h1
        cases h1
      | none => exact ⟨by simp [e1, e2], by simp [mput_length, ha, hb, e2]⟩
/-- Lists whose equal places are the same have the same numbering. -/
theorem canon_same (a b : List Int) (hl : a.length = b.length) (h : ∀ i j : Nat, i < a.length → j < a.length → (rd a i = rd a j ↔ rd b i = rd b j)) : (canonL a).2 = (canonL b).2 := by
  have h1 := (canon_same_take a b hl h a.length (Nat.le_refl _)).1
  rwa [List.take_length, hl, List.take_length] at h1
theorem vld_canon {l : List Int} (h : vld l = true) : (canonL l).2 = l := by
  simp only [vld, Bool.and_eq_true, decide_eq_true_eq] at h
  exact (canon_id l).2 h.2
theorem canon_vld (l : List Int) (h : l.length ≤ 4096) : vld (canonL l).2 = true := by
  simp [vld, canonL_len, h, rgs_canon]
/-- Two valid lists of one length whose equal places are the same. -/
theorem vld_ext {a b : List Int} (ha : vld a = true) (hb : vld b = true) (hl : a.length = b.length) (h : ∀ i j : Nat, i < a.length → j < a.length → (rd a i = rd a j ↔ rd b i = rd b j)) : a = b := by
  rw [← vld_canon ha, ← vld_canon hb]
  exact canon_same a b hl h
theorem vld_le {l : List Int} (h : vld l = true) : l.length ≤ 4096 := by
  simp only [vld, Bool.and_eq_true, decide_eq_true_eq] at h; exact h.1
theorem rgs_rd : ∀ (l : List Int) (n : Nat), rgs n l = true → ∀ j : Nat, j < l.length → 0 ≤ rd l j ∧ rd l j < n + l.length
  | [], _, _, j, hj => by simp at hj
  | x :: l, n, h, j, hj => by
    unfold rgs at h
    split at h
    · cases h
    · rename_i hx
      cases j with
      | zero => simp [rd]; omega
      | succ j =>
        have := rgs_rd l _ h j (by simpa using hj)
        have e : rd (x :: l) ((j + 1 : Nat) : Int) = rd l (j : Int) := by simp only [rd, Int.toNat_natCast, List.getD_cons_succ]
        rw [e]
        simp only [List.length_cons]
        split at this <;> omega
theorem vld_rd {l : List Int} (h : vld l = true) (j : Nat) (hj : j < l.length) : 0 ≤ rd l j ∧ rd l j < l.length := by
  simp only [vld, Bool.and_eq_true, decide_eq_true_eq] at h
  have := rgs_rd l 0 h.2 j hj
  omega

/-- Going up from x one comes to the root r, in k steps. -/
inductive Rt (f : List Int) : Nat → Nat → Nat → Prop
  | root {x : Nat} (hx : x < f.length) (he : rd f x = (x : Int)) : Rt f x x 0
  | step {x y r k : Nat} (hx : x < f.length) (he : rd f x = (y : Int)) (hne : y ≠ x) (h : Rt f y r k) : Rt f x r (k + 1)
theorem Rt.lt {f : List Int} {x r k : Nat} (h : Rt f x r k) : x < f.length := by cases h <;> assumption
theorem Rt.end_ {f : List Int} {x r k : Nat} (h : Rt f x r k) : r < f.length ∧ rd f r = (r : Int) := by
  induction h with
  | root hx he => exact ⟨hx, he⟩
  | step _ _ _ _ ih => exact ih
theorem Rt.same {f : List Int} {x r k r' k' : Nat} (h : Rt f x r k) (h' : Rt f x r' k') : r = r' ∧ k = k' := by
  induction h generalizing r' k' with
  | root hx he =>
    cases h' with
    | root => exact ⟨rfl, rfl⟩
    | step _ he' hne _ => rw [he] at he'; exact absurd (Int.ofNat.inj he').symm hne
  | step hx he hne h ih =>
    cases h' with
    | root _ he' => rw [he] at he'; exact absurd (Int.ofNat.inj he') hne
    | step _ he' _ h' =>
      rw [he] at he'
      have := Int.ofNat.inj he'
      subst this
      obtain ⟨e1, e2⟩ := ih h'
      exact ⟨e1, by rw [e2]⟩
theorem rd_set_eq (f : List Int) (x : Nat) (v : Int) (hx : x < f.length) : rd (f.set x v) (x : Int) = v := by
  simp [rd, List.getD, hx]
theorem rd_set_ne (f : List Int) (x y : Nat) (v : Int) (h : x ≠ y) : rd (f.set x v) (y : Int) = rd f (y : Int) := by
  simp [rd, List.getD, List.getElem?_set_ne h]
/-- One step of the halving: all roots stay, no way grows. -/
theorem halve {f : List Int} {x y z : Nat} (hx : x < f.length) (hy : rd f x = (y : Int)) (hne : y ≠ x) (hz : rd f y = (z : Int)) :
    ∀ (k u r : Nat), Rt f u r k → ∃ k', k' ≤ k ∧ Rt (f.set x z) u r k' ∧ (u = x → 1 ≤ k') := by
  intro k
  induction k using Nat.strongRecOn with
  | ind k ih =>
    intro u r h
    cases h with
    | root hu he =>
      have hux : x ≠ u := by
        rintro rfl
        rw [hy] at he
        exact hne (Int.ofNat.inj he)
      exact ⟨0, Nat.le_refl _, .root (by simpa using hu) (by rw [rd_set_ne f x u _ hux]; exact he), fun e => absurd e.symm hux⟩
    | @step _ v _ k hu he hnv h =>
      by_cases hux : u = x
      · subst hux
        rw [hy] at he
        have hv := Int.ofNat.inj he
        subst hv
        cases h with
        | root hv' he' =>
          rw [hz] at he'
          have := Int.ofNat.inj he'
          subst this
          refine ⟨1, by omega, .step (by simpa using hx) (rd_set_eq f u _ hx) hne (.root (by simpa using hv') (by rw [rd_set_ne f u z _ (Ne.symm hne)]; exact hz)), fun _ => Nat.le_refl _⟩
        | @step _ t _ k hv' he' hnt h2 =>
          rw [hz] at he'
          have := Int.ofNat.inj he'
          subst this
          have hzu : z ≠ u := by
            rintro rfl
            have h3 : Rt f z r (k + 1 + 1) := .step hu hy hne (.step hv' hz hnt h2)
            have := (h3.same h2).2
            omega
          obtain ⟨k', hk', h4, _⟩ := ih k (by omega) z r h2
          exact ⟨k' + 1, by omega, .step (by simpa using hx) (rd_set_eq f u _ hx) hzu h4, fun _ => by omega⟩
      · obtain ⟨k', hk', h4, _⟩ := ih k (by omega) v r h
        exact ⟨k' + 1, by omega, .step (by simpa using hu) (by rw [rd_set_ne f x u _ (Ne.symm hux)]; exact he) hnv h4, fun e => absurd e hux⟩
/-- f is a forest whose roots are told by R. -/
def UF (f : List Int) (n : Nat) (R : Nat → Nat) : Prop := f.length = n ∧ ∀ x, x < n → ∃ k, Rt f x (R x) k
theorem UF.lt {f : List Int} {n : Nat} {R : Nat → Nat} (h : UF f n R) (x : Nat) (hx : x < n) : R x < n := by
  obtain ⟨k, hk⟩ := h.2 x hx
  rw [← h.1]; exact hk.end_.1
theorem find_ev (n : Nat) (R : Nat → Nat) : ∀ (k x : Nat) (f : List Int), UF f n R → Rt f x (R x) k → ∃ f', UF f' n R ∧ Ev (fun j => partition_forest_find.l0 j f (x : Int)) ((R x : Int), f') := by
  intro k
  induction k using Nat.strongRecOn with
  | ind k ih =>
    intro x f hf h
    have hx := h.lt
    rcases Nat.eq_zero_or_pos k with hk | hk
    · subst hk
      have e : R x = x ∧ rd f x = (x : Int) := by
        generalize hr : R x = r at h
        cases h with
        | root _ he => exact ⟨rfl, he⟩
      refine ⟨f, hf, Ev.step (fun _ => rfl) (ev_pos (by omega) (ev_pos (by omega) (ev_pos e.2 (ev_eq (ev_some _) (by rw [e.1])))))⟩
    · obtain ⟨y, k', hy, hne, h2, hk'⟩ : ∃ (y k' : Nat), rd f x = (y : Int) ∧ y ≠ x ∧ Rt f y (R x) k' ∧ k = k' + 1 := by
        generalize hr : R x = r at h ⊢
        cases h with
        | root => omega
        | step _ he hn h => exact ⟨_, _, he, hn, h, rfl⟩
      have hyl := h2.lt
      obtain ⟨z, hz, hzl, kz, hz3, hz4⟩ : ∃ z : Nat, rd f y = (z : Int) ∧ z < f.length ∧ ∃ kz, Rt f z (R x) kz ∧ kz < k := by
        generalize hr : R x = r at h2 ⊢
        cases h2 with
        | root _ he => exact ⟨_, he, hyl, 0, .root hyl he, hk⟩
        | step _ he hn h => exact ⟨_, he, h.lt, _, h, by omega⟩
      have hset : UF (f.set x z) n R := ⟨by rw [List.length_set]; exact hf.1, fun u hu => by
        obtain ⟨ku, h5⟩ := hf.2 u hu
        obtain ⟨k'', _, h6, _⟩ := halve hx hy hne hz ku u _ h5
        exact ⟨k'', h6⟩⟩
      obtain ⟨kz', hkz, hz5, _⟩ := halve hx hy hne hz kz z _ hz3
      have hRz : R z = R x := by
        obtain ⟨kk, h7⟩ := hset.2 z (by rw [← hf.1]; exact hzl)
        exact (h7.same hz5).1
      obtain ⟨f', hf', hev⟩ := ih kz' (by omega) z (f.set x z) hset (by rw [hRz]; exact hz5)
      refine ⟨f', hf', Ev.step (fun _ => rfl) (ev_pos (by omega) (ev_pos (by omega) (ev_neg (by rw [hy]; intro e; exact hne (Int.ofNat.inj e)) (ev_pos (by rw [hy]; omega) (ev_pos (by rw [hy]; omega) (ev_bind0 rfl ?_))))))⟩
      have e1 : rd f (rd f (x : Int)) = (z : Int) := by rw [hy, hz]
      have e2 : rd (f.set (x : Int).toNat (rd f (rd f (x : Int)))) (x : Int) = (z : Int) := by rw [e1, Int.toNat_natCast, rd_set_eq f x _ hx]
      rw [e2, e1, Int.toNat_natCast, ← hRz]
      exact hev
theorem find_ev' {n : Nat} {R : Nat → Nat} {f : List Int} (hf : UF f n R) (x : Nat) (hx : x < n) : ∃ f', UF f' n R ∧ Ev (fun j => partition_forest_find.f j f (x : Int)) ((R x : Int), f') := by
  obtain ⟨k, h⟩ := hf.2 x hx
  exact find_ev n R k x f hf h
/-- The classes of x and y become one. -/
def mrg {α : Type} [DecidableEq α] (R : Nat → α) (x y u : Nat) : α := if R u = R x then R y else R u
theorem union_ev {n : Nat} {R : Nat → Nat} {f : List Int} (hf : UF f n R) (x y : Nat) (hx : x < n) (hy : y < n) : ∃ f', UF f' n (mrg R x y) ∧ Ev (fun j => partition_forest_union.f j f (x : Int) (y : Int)) f' := by
  obtain ⟨f1, h1, e1⟩ := find_ev' hf x hx
  obtain ⟨f2, h2, e2⟩ := find_ev' h1 y hy
  refine ⟨f2.set (R x) (R y : Int), ?_, ?_⟩
  · refine ⟨by rw [List.length_set]; exact h2.1, fun u hu => ?_⟩
    obtain ⟨k, hk⟩ := h2.2 u hu
    obtain ⟨ky, hky⟩ := h2.2 y hy
    obtain ⟨kx, hkx⟩ := h2.2 x hx
    obtain ⟨hxl, hxe⟩ := hkx.end_
    obtain ⟨hyl, hye⟩ := hky.end_
    by_cases hxy : R x = R y
    · have hs : f2.set (R x) (R y : Int) = f2 := by
        apply List.ext_getElem?
        intro i
        rw [List.getElem?_set]
        split
        · rename_i e; subst e
          have : rd f2 (R x : Int) = f2[R x] := by simp [rd, List.getD, hxl]
          rw [List.getElem?_eq_getElem hxl, ← this, hxe, hxy]
        · rfl
      rw [hs]
      have hm : mrg R x y u = R u := by unfold mrg; split <;> simp_all
      rw [hm]
      exact ⟨k, hk⟩
    · have key : ∀ (k u r : Nat), Rt f2 u r k → ∃ k', Rt (f2.set (R x) (R y : Int)) u (if r = R x then R y else r) k' := by
        intro k
        induction k with
        | zero =>
          intro u r h
          cases h with
          | root hu he =>
            by_cases hr : u = R x
            · subst hr
              rw [if_pos rfl]
              exact ⟨1, .step (by simpa using hxl) (rd_set_eq f2 _ _ hxl) (Ne.symm hxy) (.root (by simpa using hyl) (by rw [rd_set_ne f2 _ _ _ hxy]; exact hye))⟩
            · rw [if_neg hr]
              exact ⟨0, .root (by simpa using hu) (by rw [rd_set_ne f2 _ _ _ (Ne.symm hr)]; exact he)⟩
        | succ k ih =>
          intro u r h
          cases h with
          | step hu he hn h =>
            obtain ⟨k', h'⟩ := ih _ _ h
            have hr : u ≠ R x := by
              rintro rfl
              rw [hxe] at he
              exact hn (Int.ofNat.inj he).symm
            exact ⟨k' + 1, .step (by simpa using hu) (by rw [rd_set_ne f2 _ _ _ (Ne.symm hr)]; exact he) hn h'⟩
      exact key k u _ hk
  · have hl := h1.lt x hx
    have hRx : ((R x : Nat) : Int) < (f.length : Int) := by rw [hf.1]; have := hf.lt x hx; omega
    refine ev_bind e1 (ev_bind e2 (ev_pos (by omega) (ev_pos hRx (ev_some _))))
theorem newForest_ev (n : Nat) (hn : n ≤ 4096) : ∃ f, UF f n (fun x => x) ∧ Ev (fun k => partition_newForest.f k (n : Int)) f := by
  have key : ∀ (d i : Nat) (l : List Int), n - i = d → i ≤ n → l.length = n → (∀ j : Nat, j < i → rd l j = (j : Int)) →
      ∃ f : List Int, f.length = n ∧ (∀ j : Nat, j < n → rd f j = (j : Int)) ∧ Ev (fun k => partition_newForest.l0 k l (n : Int) (i : Int)) f := by
    intro d
    induction d with
    | zero =>
      intro i l hd hi hl hj
      exact ⟨l, hl, fun j hjn => hj j (by omega), Ev.step (fun _ => rfl) (ev_neg (by omega) (ev_some _))⟩
    | succ d ih =>
      intro i l hd hi hl hj
      obtain ⟨f, h1, h2, h3⟩ := ih (i + 1) (l.set i (i : Int)) (by omega) (by omega) (by rw [List.length_set]; exact hl) (fun j hjn => by
        by_cases e : i = j
        · subst e; exact rd_set_eq l i _ (by omega)
        · rw [rd_set_ne l i j _ e]; exact hj j (by omega))
      refine ⟨f, h1, h2, Ev.step (fun _ => rfl) (ev_pos (by omega) (ev_pos (by omega) (ev_pos (by omega) ?_)))⟩
      rw [wrap_succ (n := n) (by omega) (by omega), Int.toNat_natCast]
      exact h3
  obtain ⟨f, h1, h2, h3⟩ := key n 0 (List.replicate n 0) (by omega) (by omega) (by simp) (fun j hj => by omega)
  refine ⟨f, ⟨h1, fun x hx => ⟨0, .root (by omega) (h2 x hx)⟩⟩, ev_pos (by omega) (ev_pos (by omega) (ev_bind0 rfl ?_))⟩
  rw [Int.toNat_natCast, List.length_replicate]
  exact h3
theorem fpart_ev {n : Nat} {R : Nat → Nat} {f : List Int} (hf : UF f n R) (hn : n ≤ 4096) : ∃ (l f' : List Int), l.length = n ∧ (∀ j : Nat, j < n → rd l j = (R j : Int)) ∧ Ev (fun k => partition_forest_partition.f k f) ((canonL l).2, f') := by
  have key : ∀ (d i : Nat) (f l : List Int), n - i = d → i ≤ n → UF f n R → l.length = n → (∀ j : Nat, j < i → rd l j = (R j : Int)) →
      ∃ l' f' : List Int, l'.length = n ∧ (∀ j : Nat, j < n → rd l' j = (R j : Int)) ∧ Ev (fun k => partition_forest_partition.l0 k f l (n : Int) (i : Int)) ((canonL l').2, f') := by
    intro d
    induction d with
    | zero =>
      intro i f l hd hi hf hl hj
      refine ⟨l, f, hl, fun j hjn => hj j (by omega), Ev.step (fun _ => rfl) (ev_neg (by omega) (ev_bind0 (a := (canonL l).2) ?_ (ev_some _)))⟩
      unfold partition_Canonical.f
      rw [if_neg (by omega)]
    | succ d ih =>
      intro i f l hd hi hf hl hj
      obtain ⟨f1, hf1, e1⟩ := find_ev' hf i (by omega)
      obtain ⟨l', f', h1, h2, h3⟩ := ih (i + 1) f1 (l.set i (R i : Int)) (by omega) (by omega) hf1 (by rw [List.length_set]; exact hl) (fun j hjn => by
        by_cases e : i = j
        · subst e; exact rd_set_eq l i _ (by omega)
        · rw [rd_set_ne l i j _ e]; exact hj j (by omega))
      refine ⟨l', f', h1, h2, Ev.step (fun _ => rfl) (ev_pos (by omega) (ev_bind e1 (ev_pos (by omega) (ev_pos (by omega) ?_))))⟩
      show Ev (fun k => partition_forest_partition.l0 k f1 (l.set (i : Int).toNat (R i : Int)) (n : Int) (wrap64 ((i : Int) + 1))) _
      rw [wrap_succ (n := n) (by omega) (by omega), Int.toNat_natCast]
      exact h3
  have hfl := hf.1
  obtain ⟨l', f', h1, h2, h3⟩ := key n 0 f (List.replicate n 0) (by omega) (by omega) hf (by simp) (fun j hj => by omega)
  refine ⟨l', f', h1, h2, ev_pos (by omega) (ev_pos (by omega) (ev_bind0 rfl ?_))⟩
  rw [Int.toNat_natCast, List.length_replicate, hfl]
  exact h3

/-- The least equivalence of the numbers below n that contains B. -/
inductive EG (B : Nat → Nat → Prop) (n : Nat) : Nat → Nat → Prop
  | of {x y : Nat} (hx : x < n) (hy : y < n) (h : B x y) : EG B n x y
  | refl {x : Nat} (hx : x < n) : EG B n x x
  | symm {x y : Nat} (h : EG B n x y) : EG B n y x
  | trans {x y z : Nat} (h : EG B n x y) (h' : EG B n y z) : EG B n x z
theorem EG.lt {B : Nat → Nat → Prop} {n x y : Nat} (h : EG B n x y) : x < n ∧ y < n := by
  induction h with
  | of hx hy _ => exact ⟨hx, hy⟩
  | refl hx => exact ⟨hx, hx⟩
  | symm _ ih => exact ⟨ih.2, ih.1⟩
  | trans _ _ i1 i2 => exact ⟨i1.1, i2.2⟩
theorem EG.le {α : Type} {B : Nat → Nat → Prop} {n : Nat} {g : Nat → α} (hB : ∀ u v, u < n → v < n → B u v → g u = g v) {x y : Nat} (h : EG B n x y) : g x = g y := by
  induction h with
  | of hx hy h => exact hB _ _ hx hy h
  | refl _ => rfl
  | symm _ ih => exact ih.symm
  | trans _ _ i1 i2 => exact i1.trans i2
def Sub {α : Type} (g : Nat → α) (B : Nat → Nat → Prop) (n : Nat) : Prop := ∀ u v, u < n → v < n → g u = g v → EG B n u v
theorem mrg_keep {α : Type} [DecidableEq α] (g : Nat → α) (x y : Nat) {u v : Nat} (h : g u = g v) : mrg g x y u = mrg g x y v := by
  unfold mrg; rw [h]
theorem mrg_join {α : Type} [DecidableEq α] (g : Nat → α) (x y : Nat) : mrg g x y x = mrg g x y y := by
  unfold mrg; rw [if_pos rfl]; split <;> rfl
theorem mrg_sub {α : Type} [DecidableEq α] {g : Nat → α} {B : Nat → Nat → Prop} {n x y : Nat} (h : Sub g B n) (hx : x < n) (hy : y < n) (hB : EG B n x y) : Sub (mrg g x y) B n := by
  intro u v hu hv e
  unfold mrg at e
  split at e <;> split at e
  · rename_i h1 h2; exact h u v hu hv (h1.trans h2.symm)
  · rename_i h1 h2; exact .trans (h u x hu hx h1) (.trans hB (h y v hy hv e))
  · rename_i h1 h2; exact .trans (h u y hu hy e) (.trans (.symm hB) (h x v hx hv h2.symm))
  · exact h u v hu hv e

def okP (n : Nat) (x : S42) : Bool := decide (0 ≤ x.f0 ∧ x.f0 < n ∧ 0 ≤ x.f1 ∧ x.f1 < n)
def PB (l : List S42) (u v : Nat) : Prop := ∃ x ∈ l, x.f0 = (u : Int) ∧ x.f1 = (v : Int)
def IsPairs (n : Nat) (l : List S42) (r : List Int) : Prop := r.length = n ∧ vld r = true ∧ ∀ u v : Nat, u < n → v < n → (rd r u = rd r v ↔ EG (PB l) n u v)
theorem isPairs_same {n : Nat} {l : List S42} {r r' : List Int} (h : IsPairs n l r) (h' : IsPairs n l r') : r = r' :=
  vld_ext h.2.1 h'.2.1 (by rw [h.1, h'.1]) (fun i j hi hj => by rw [h.2.2 i j (by rw [← h.1]; exact hi) (by rw [← h.1]; exact hj), h'.2.2 i j (by rw [← h.1]; exact hi) (by rw [← h.1]; exact hj)])
theorem rdT_at (l : List S42) (i : Nat) (h : i < l.length) : rd_T42 l (i : Int) = l[i] := by simp [rd_T42, List.getD, h]
theorem drop_T (l : List S42) (i : Nat) (h : i < l.length) : l.drop i = rd_T42 l (i : Int) :: l.drop (i + 1) := by rw [rdT_at l i h]; exact List.drop_eq_getElem_cons h
theorem rdT_mem (l : List S42) (i : Nat) (h : i < l.length) : rd_T42 l (i : Int) ∈ l := by rw [rdT_at l i h]; exact List.getElem_mem h
theorem okP_nat {n : Nat} {x : S42} (h : okP n x = true) : ∃ u v : Nat, u < n ∧ v < n ∧ x.f0 = (u : Int) ∧ x.f1 = (v : Int) := by
  simp only [okP, decide_eq_true_eq] at h
  exact ⟨x.f0.toNat, x.f1.toNat, by omega, by omega, by omega, by omega⟩
theorem pairs_l0 (n : Nat) (hn : n ≤ 4096) (l : List S42) (hl : l.length ≤ 140737488355328) : ∀ (d i : Nat) (f : List Int) (R : Nat → Nat), l.length - i = d → i ≤ l.length → UF f n R → Sub R (PB l) n →
    (∀ j : Nat, j < i → ∀ u v : Nat, (rd_T42 l j).f0 = (u : Int) → (rd_T42 l j).f1 = (v : Int) → R u = R v) →
    ∃ r, (if (l.drop i).all (okP n) = true then IsPairs n l r else r = []) ∧ Ev (fun k => partition_FromPairs.l0 k (n : Int) f l (l.length : Int) (i : Int)) r := by
  intro d
  induction d with
  | zero =>
    intro i f R hd hi hf hs hj
    obtain ⟨t, f', e1, e2, e3⟩ := fpart_ev hf hn
    refine ⟨(canonL t).2, ?_, Ev.step (fun _ => rfl) (ev_neg (by omega) (ev_bind e3 (ev_some _)))⟩
    rw [show l.drop i = [] from List.drop_eq_nil_of_le (by omega)]
    rw [if_pos (by rfl)]
    refine ⟨by rw [canonL_len, e1], canon_vld t (by omega), fun u v hu hv => ?_⟩
    rw [canon_ker t u v (by omega) (by omega), e2 u hu, e2 v hv]
    constructor
    · exact fun e => hs u v hu hv (Int.ofNat.inj e)
    · intro e
      have := EG.le (g := R) (fun a b ha hb hab => by
        obtain ⟨x, hx, h1, h2⟩ := hab
        obtain ⟨j, hjl, rfl⟩ := List.getElem_of_mem hx
        exact hj j (by omega) a b (by rw [rdT_at l j hjl]; exact h1) (by rw [rdT_at l j hjl]; exact h2)) e
      rw [this]
  | succ d ih =>
    intro i f R hd hi hf hs hj
    have hil : i < l.length := by omega
    rw [drop_T l i hil]
    by_cases hok : okP n (rd_T42 l (i : Int)) = true
    · obtain ⟨u, v, hu, hv, e0, e1⟩ := okP_nat hok
      obtain ⟨f', hf', e'⟩ := union_ev hf u v hu hv
      obtain ⟨r, hr, er⟩ := ih (i + 1) f' (mrg R u v) (by omega) (by omega) hf' (mrg_sub hs hu hv (.of hu hv ⟨_, rdT_mem l i hil, e0, e1⟩)) (fun j hjl a b ha hb => by
        by_cases e : j = i
        · subst e
          rw [e0] at ha
          rw [e1] at hb
          have := Int.ofNat.inj ha
          have := Int.ofNat.inj hb
          subst_vars
          exact mrg_join R a b
        · exact mrg_keep R u v (hj j (by omega) a b ha hb))
      refine ⟨r, by rw [List.all_cons, hok, Bool.true_and]; exact hr, Ev.step (fun _ => rfl) (ev_pos (by omega) (ev_pos (by omega) (ev_pos (by omega) (ev_neg (by omega) (ev_neg (by omega) (ev_neg (by omega) (ev_neg (by omega) (ev_bind (by rw [e0, e1]; exact e') ?_))))))))⟩
      rw [wrap_succ (n := l.length) (by omega) (by omega)]
      exact er
    · refine ⟨[], by rw [List.all_cons, Bool.eq_false_iff.2 hok, Bool.false_and]; rfl, Ev.step (fun _ => rfl) (ev_pos (by omega) (ev_pos (by omega) (ev_pos (by omega) ?_)))⟩
      simp only [okP, decide_eq_true_eq] at hok
      by_cases h1 : (rd_T42 l (i : Int)).f0 < 0
      · exact ev_pos h1 (ev_some _)
      refine ev_neg h1 ?_
      by_cases h2 : (rd_T42 l (i : Int)).f0 ≥ (n : Int)
      · exact ev_pos h2 (ev_some _)
      refine ev_neg h2 ?_
      by_cases h3 : (rd_T42 l (i : Int)).f1 < 0
      · exact ev_pos h3 (ev_some _)
      refine ev_neg h3 (ev_pos ?_ (ev_some _))
      omega
def mayP (n : Int) (l : List S42) : Bool := decide (0 ≤ n ∧ n ≤ 4096) && l.all (okP n.toNat)
theorem pairs_ev (n : Int) (l : List S42) (hl : l.length ≤ 140737488355328) : ∃ r, (if mayP n l = true then IsPairs n.toNat l r else r = []) ∧ Ev (fun k => partition_FromPairs.f k n l) r := by
  have no : ∀ b : Bool, b = true → Ev (fun k => partition_FromPairs.j0 k n l b) [] := fun b e => Ev.step (fun _ => rfl) (ev_pos e (ev_some _))
  by_cases h0 : n < 0
  · exact ⟨[], by rw [if_neg (by simp [mayP]; omega)], ev_pos h0 (no _ rfl)⟩
  by_cases h1 : n > 4096
  · exact ⟨[], by rw [if_neg (by simp [mayP]; omega)], ev_neg h0 (no _ (by simp [h1]))⟩
  obtain ⟨m, rfl⟩ : ∃ m : Nat, n = (m : Int) := ⟨n.toNat, by omega⟩
  obtain ⟨f, hf, ef⟩ := newForest_ev m (by omega)
  obtain ⟨r, hr, er⟩ := pairs_l0 m (by omega) l hl l.length 0 f (fun x => x) (by omega) (by omega) hf (fun u v hu hv e => by have e : u = v := e; subst e; exact .refl hu) (fun j hj => by omega)
  have no2 : ∀ b : Bool, b = false → Ev (fun k => partition_FromPairs.j0 k (m : Int) l b) r := fun b e => Ev.step (fun _ => rfl) (ev_neg (by simp [e]) (ev_bind ef er))
  refine ⟨r, ?_, ev_neg h0 (no2 _ (by simp; omega))⟩
  rw [List.drop_zero] at hr
  have e : mayP (m : Int) l = l.all (okP m) := by
    unfold mayP
    rw [show decide (0 ≤ (m : Int) ∧ (m : Int) ≤ 4096) = true from decide_eq_true (by omega), Bool.true_and, Int.toNat_natCast]
  rw [e, Int.toNat_natCast]
  exact hr

theorem may_l0 (n : Nat) (l : List S42) (hl : l.length ≤ 140737488355328) : ∀ (d i : Nat), l.length - i = d → i ≤ l.length → Ev (fun k => semigroupref03_MayPairs.l0 k (n : Int) l (l.length : Int) (i : Int)) ((l.drop i).all (okP n)) := by
  intro d
  induction d with
  | zero =>
    intro i hd hi
    rw [show l.drop i = [] from List.drop_eq_nil_of_le (by omega)]
    exact Ev.step (fun _ => rfl) (ev_neg (by omega) (ev_some _))
  | succ d ih =>
    intro i hd hi
    have hil : i < l.length := by omega
    rw [drop_T l i hil, List.all_cons]
    refine Ev.step (fun _ => rfl) (ev_pos (by omega) (ev_pos (by omega) (ev_pos (by omega) ?_)))
    by_cases hok : okP n (rd_T42 l (i : Int)) = true
    · have hok' := hok
      simp only [okP, decide_eq_true_eq] at hok'
      rw [hok, Bool.true_and]
      refine ev_neg (by omega) (ev_neg (by omega) (ev_neg (by omega) (ev_neg (by omega) ?_)))
      rw [wrap_succ (n := l.length) (by omega) (by omega)]
      exact ih (i + 1) (by omega) (by omega)
    · rw [Bool.eq_false_iff.2 hok, Bool.false_and]
      simp only [okP, decide_eq_true_eq] at hok
      by_cases h1 : (rd_T42 l (i : Int)).f0 < 0
      · exact ev_pos h1 (ev_some _)
      refine ev_neg h1 ?_
      by_cases h2 : (rd_T42 l (i : Int)).f0 ≥ (n : Int)
      · exact ev_pos h2 (ev_some _)
      refine ev_neg h2 ?_
      by_cases h3 : (rd_T42 l (i : Int)).f1 < 0
      · exact ev_pos h3 (ev_some _)
      refine ev_neg h3 (ev_pos ?_ (ev_some _))
      omega
theorem may_ev (n : Int) (l : List S42) (hl : l.length ≤ 140737488355328) : Ev (fun k => semigroupref03_MayPairs.f k n l) (mayP n l) := by
  have no : ∀ b : Bool, b = true → Ev (fun k => semigroupref03_MayPairs.j0 k n l b) false := fun b e => Ev.step (fun _ => rfl) (ev_pos e (ev_some _))
  by_cases h0 : n < 0
  · exact ev_eq (ev_pos h0 (no _ rfl)) (by rw [eq_comm, Bool.eq_false_iff]; simp [mayP]; omega)
  by_cases h1 : n > 4096
  · exact ev_eq (ev_neg h0 (no _ (by simp [h1]))) (by rw [eq_comm, Bool.eq_false_iff]; simp [mayP]; omega)
  obtain ⟨m, rfl⟩ : ∃ m : Nat, n = (m : Int) := ⟨n.toNat, by omega⟩
  have yes : ∀ b : Bool, b = false → Ev (fun k => semigroupref03_MayPairs.j0 k (m : Int) l b) (l.all (okP m)) := fun b e => Ev.step (fun _ => rfl) (ev_neg (by simp [e]) (by have := may_l0 m l hl l.length 0 (by omega) (by omega); rwa [List.drop_zero] at this))
  refine ev_eq (ev_neg h0 (yes _ (by simp; omega))) ?_
  unfold mayP
  rw [show decide (0 ≤ (m : Int) ∧ (m : Int) ≤ 4096) = true from decide_eq_true (by omega), Bool.true_and, Int.toNat_natCast]

theorem merge_ev (l : List Int) (hn : l.length ≤ 4096) (i j : Nat) (hi : i < l.length) (hj : j < l.length) :
    ∃ l' : List Int, l'.length = l.length ∧ (∀ u : Nat, u < l.length → rd l' u = mrg (fun u : Nat => rd l u) j i u) ∧ Ev (fun k => semigroupref03_Merge.f k l (i : Int) (j : Int)) l' := by
  have key : ∀ (d s : Nat) (t : List Int), l.length - s = d → s ≤ l.length → t.length = l.length → (∀ u : Nat, u < s → rd t u = mrg (fun u : Nat => rd l u) j i u) → (∀ u : Nat, s ≤ u → rd t u = rd l u) →
      ∃ l' : List Int, l'.length = l.length ∧ (∀ u : Nat, u < l.length → rd l' u = mrg (fun u : Nat => rd l u) j i u) ∧ Ev (fun k => semigroupref03_Merge.l0 k t (rd l i) (rd l j) (l.length : Int) (s : Int)) l' := by
    intro d
    induction d with
    | zero =>
      intro s t hd hs ht h1 h2
      exact ⟨t, ht, fun u hu => h1 u (by omega), Ev.step (fun _ => rfl) (ev_neg (by omega) (ev_some _))⟩
    | succ d ih =>
      intro s t hd hs ht h1 h2
      by_cases he : rd t s = rd l j
      · obtain ⟨l', g1, g2, g3⟩ := ih (s + 1) (t.set s (rd l i)) (by omega) (by omega) (by rw [List.length_set]; exact ht) (fun u hu => by
          by_cases e : s = u
          · subst e; rw [rd_set_eq t s _ (by omega)]; unfold mrg; rw [if_pos (show rd l s = rd l j by rw [← h2 s (Nat.le_refl _)]; exact he)]
          · rw [rd_set_ne t s u _ e]; exact h1 u (by omega)) (fun u hu => by rw [rd_set_ne t s u _ (by omega)]; exact h2 u (by omega))
        refine ⟨l', g1, g2, Ev.step (fun _ => rfl) (ev_pos (by omega) (ev_pos (by omega) (ev_pos (by omega) (ev_pos he ?_))))⟩
        rw [wrap_succ (n := l.length) (by omega) (by omega), Int.toNat_natCast]
        exact g3
      · obtain ⟨l', g1, g2, g3⟩ := ih (s + 1) t (by omega) (by omega) ht (fun u hu => by
          by_cases e : s = u
          · subst e; rw [h2 s (Nat.le_refl _)]; unfold mrg; rw [if_neg (show ¬ rd l s = rd l j by rw [← h2 s (Nat.le_refl _)]; exact he)]
          · exact h1 u (by omega)) (fun u hu => h2 u (by omega))
        refine ⟨l', g1, g2, Ev.step (fun _ => rfl) (ev_pos (by omega) (ev_pos (by omega) (ev_pos (by omega) (ev_neg he ?_))))⟩
        rw [wrap_succ (n := l.length) (by omega) (by omega)]
        exact g3
  obtain ⟨l', h1, h2, h3⟩ := key l.length 0 l (by omega) (by omega) rfl (fun u hu => by omega) (fun u _ => rfl)
  exact ⟨l', h1, h2, ev_pos (by omega) (ev_pos (by omega) (ev_pos (by omega) (ev_pos (by omega) h3)))⟩

def dsc (n : Nat) : List Int := (List.range n).map (fun i : Nat => (i : Int))
theorem dsc_len (n : Nat) : (dsc n).length = n := by simp [dsc]

theorem refdiscrete_l0 (c : Nat) (hc : c ≤ 4096) : ∀ (d i : Nat) (t : List Int), c - i = d → i ≤ c → t.length = c → (∀ j, j < i → t[j]? = some (j : Int)) →
    Ev (fun k => semigroupref03_Discrete.l0 k t (c : Int) (i : Int)) (dsc c) := by
  intro d
  induction d with
  | zero =>
    intro i t hd hi ht h1
    have e : t = dsc c := by
      apply List.ext_getElem?
      intro j
      by_cases hj : j < c
      · rw [h1 j (by omega)]; simp [dsc, hj]
      · rw [List.getElem?_eq_none (by omega), List.getElem?_eq_none (by rw [dsc_len]; omega)]
    subst e
    exact Ev.step (fun _ => rfl) (ev_neg (by omega) (ev_some _))
  | succ d ih =>
    intro i t hd hi ht h1
    refine Ev.step (fun _ => rfl) (ev_pos (by omega) (ev_pos (by omega) (ev_pos (by omega) ?_)))
    rw [wrap_succ (n := c) (by omega) (by omega)]
    refine ih (i + 1) _ (by omega) (by omega) (by rw [List.length_set, ht]) (fun j hj => ?_)
    rw [Int.toNat_natCast, List.getElem?_set]
    by_cases hij : i = j
    · subst hij; simp; omega
    · rw [if_neg hij]; exact h1 j (by omega)
theorem refdiscrete_ev (n : Int) (h : 0 ≤ n ∧ n ≤ 4096) : Ev (fun k => semigroupref03_Discrete.f k n) (dsc n.toNat) := by
  refine ev_pos h.1 (ev_pos (by omega) (ev_bind0 rfl ?_))
  have := refdiscrete_l0 n.toNat (by omega) _ 0 (List.replicate n.toNat 0) rfl (by omega) (by simp) (fun j hj => by omega)
  simpa using this

theorem refpairs_l0 (n : Nat) (hn : n ≤ 4096) (l : List S42) (hl : l.length ≤ 140737488355328) (hok : ∀ x ∈ l, okP n x = true) : ∀ (d i : Nat) (t : List Int), l.length - i = d → i ≤ l.length → t.length = n → Sub (fun u : Nat => rd t u) (PB l) n →
    (∀ j : Nat, j < i → ∀ u v : Nat, (rd_T42 l j).f0 = (u : Int) → (rd_T42 l j).f1 = (v : Int) → rd t u = rd t v) →
    ∃ r, IsPairs n l r ∧ Ev (fun k => semigroupref03_FromPairs.l0 k t l (l.length : Int) (i : Int)) r := by
  intro d
  induction d with
  | zero =>
    intro i t hd hi ht hs hj
    refine ⟨(canonL t).2, ⟨by rw [canonL_len, ht], canon_vld t (by omega), fun u v hu hv => ?_⟩, Ev.step (fun _ => rfl) (ev_neg (by omega) (ev_bind0 (a := (canonL t).2) (by unfold semigroupref03_Canonical.f; rw [if_neg (by omega)]) (ev_some _)))⟩
    rw [canon_ker t u v (by omega) (by omega)]
    refine ⟨fun e => hs u v hu hv e, fun e => EG.le (g := fun u : Nat => rd t u) (fun a b ha hb hab => ?_) e⟩
    obtain ⟨x, hx, h1, h2⟩ := hab
    obtain ⟨j, hjl, rfl⟩ := List.getElem_of_mem hx
    exact hj j (by omega) a b (by rw [rdT_at l j hjl]; exact h1) (by rw [rdT_at l j hjl]; exact h2)
  | succ d ih =>
    intro i t hd hi ht hs hj
    have hil : i < l.length := by omega
    obtain ⟨u, v, hu, hv, e0, e1⟩ := okP_nat (hok _ (rdT_mem l i hil))
    obtain ⟨t', a1, a2, a3⟩ := merge_ev t (by omega) u v (by omega) (by omega)
    obtain ⟨r, hr, er⟩ := ih (i + 1) t' (by omega) (by omega) (by omega) (fun a b ha hb e => by
        have e : rd t' a = rd t' b := e
        rw [a2 a (by omega), a2 b (by omega)] at e
        exact mrg_sub hs hv hu (.symm (.of hu hv ⟨_, rdT_mem l i hil, e0, e1⟩)) a b ha hb e) (fun j hjl a b ha hb => by
      by_cases e : j = i
      · subst e
        rw [e0] at ha
        rw [e1] at hb
        have := Int.ofNat.inj ha
        have := Int.ofNat.inj hb
        subst_vars
        rw [a2 a (by omega), a2 b (by omega)]
        exact (mrg_join _ b a).symm
      · have ha2 : a < n := by
          have := okP_nat (hok _ (rdT_mem l j (by omega)))
          obtain ⟨p, q, hp, hq, c0, c1⟩ := this
          rw [c0] at ha; have := Int.ofNat.inj ha; omega
        have hb2 : b < n := by
          have := okP_nat (hok _ (rdT_mem l j (by omega)))
          obtain ⟨p, q, hp, hq, c0, c1⟩ := this
          rw [c1] at hb; have := Int.ofNat.inj hb; omega
        rw [a2 a (by omega), a2 b (by omega)]
        exact mrg_keep _ v u (hj j (by omega) a b ha hb))
    refine ⟨r, hr, Ev.step (fun _ => rfl) (ev_pos (by omega) (ev_pos (by omega) (ev_pos (by omega) (ev_bind (by rw [e0, e1]; exact a3) ?_))))⟩
    rw [wrap_succ (n := l.length) (by omega) (by omega)]
    exact er
theorem rd_dsc (n j : Nat) (h : j < n) : rd (dsc n) (j : Int) = (j : Int) := by simp [dsc, rd, List.getD, h]
theorem refpairs_ev (n : Nat) (hn : n ≤ 4096) (l : List S42) (hl : l.length ≤ 140737488355328) (hok : ∀ x ∈ l, okP n x = true) : ∃ r, IsPairs n l r ∧ Ev (fun k => semigroupref03_FromPairs.f k (n : Int) l) r := by
  obtain ⟨r, hr, er⟩ := refpairs_l0 n hn l hl hok l.length 0 (dsc n) (by omega) (by omega) (dsc_len n) (fun u v hu hv e => by
    have e : rd (dsc n) u = rd (dsc n) v := e
    rw [rd_dsc n u hu, rd_dsc n v hv] at e
    have := Int.ofNat.inj e
    subst this
    exact .refl hu) (fun j hj => by omega)
  have := refdiscrete_ev (n : Int) (by omega)
  rw [Int.toNat_natCast] at this
  exact ⟨r, hr, ev_bind this er⟩

theorem PartitionPairs : semigrouplaw03_PartitionPairs.Pure := by
  intro n l hn hl
  have hl2 : l.length ≤ 140737488355328 := by have := hl.1; omega
  have no : ∀ (p : List Int) (b : Bool), b = true → Ev (fun k => semigrouplaw03_PartitionPairs.j0 k n l p b) true := fun p b e => Ev.step (fun _ => rfl) (ev_pos e (ev_bind awake_ev (ev_some _)))
  obtain ⟨p, hp, ep⟩ := pairs_ev n l hl2
  refine Ev.rounds (ev_bind ep (ev_bind (may_ev n l hl2) ?_))
  by_cases hm : mayP n l = true
  · rw [if_pos hm] at hp
    refine ev_pos hm ?_
    by_cases h1 : n > 100
    · exact ev_pos h1 (no _ _ rfl)
    refine ev_neg h1 ?_
    by_cases h2 : (l.length : Int) > 200
    · exact no _ _ (by simp; omega)
    have hm' := hm
    simp only [mayP, Bool.and_eq_true, decide_eq_true_eq, List.all_eq_true] at hm'
    obtain ⟨m, rfl⟩ : ∃ m : Nat, n = (m : Int) := ⟨n.toNat, by omega⟩
    rw [Int.toNat_natCast] at hp hm'
    obtain ⟨r, hr, er⟩ := refpairs_ev m (by omega) l hl2 hm'.2
    have yes : ∀ b : Bool, b = false → Ev (fun k => semigrouplaw03_PartitionPairs.j0 k (m : Int) l p b) true := fun b e =>
      Ev.step (fun _ => rfl) (ev_neg (by simp [e]) (ev_bind er (ev_bind (same_ev _ _ (by rw [hp.1]; omega)) (ev_pos (by simp [isPairs_same hp hr]) (ev_bind awake_ev (ev_some _))))))
    exact yes _ (by simp; omega)
  · rw [if_neg hm] at hp
    subst hp
    exact ev_neg hm (ev_pos rfl (ev_bind awake_ev (ev_some _)))

end Go.Proofs.Ytjpghckijecdcaa.Pure
