/- Words of the walk: what this law's texts name. -/
import Derived.Test.YtpjbmgoagehjkaaZDfaInfiniteW0
section
namespace Go.Proofs.YtpjbmgoagehjkaaH
open Go Go.RowKit Go.Proofs.YtpjbmgoagehjkaaW.PrintWords
section
theorem mapM_at {α β : Type} {f : α → Option β} : ∀ {l : List α} {ys : List β}, l.mapM f = some ys → ys.length = l.length ∧ ∀ (i : Nat) (x : α), l[i]? = some x → ∃ y, ys[i]? = some y ∧ f x = some y
  | [], ys, h => by
    simp at h
    subst h
    exact ⟨rfl, fun i x hx => by simp at hx⟩
  | a :: l, ys, h => by
    rw [List.mapM_cons] at h
    cases ha : f a with
    | none => rw [ha] at h; cases h
    | some b =>
      rw [ha] at h
      cases hl : l.mapM f with
      | none => rw [hl] at h; cases h
      | some bs =>
        rw [hl] at h
        have h' : some (b :: bs) = some ys := h
        injection h' with h'
        subst h'
        obtain ⟨e, r⟩ := mapM_at hl
        refine ⟨by simp [e], fun i x hx => ?_⟩
        cases i with
        | zero =>
          simp only [List.getElem?_cons_zero, Option.some.injEq] at hx
          subst hx
          exact ⟨b, rfl, ha⟩
        | succ i => simpa using r i x (by simpa using hx)
theorem all_append_l {a b : List Nat} (h : (a ++ b).all (· ≤ reachBytes) = true) : a.all (· ≤ reachBytes) = true ∧ b.all (· ≤ reachBytes) = true := by
  rw [List.all_append, Bool.and_eq_true] at h
  exact h
theorem all_weights {H : Type} {P : Program} {e : TypeId} : ∀ {ds : List (DataW H)} {i : Nat} {d : DataW H}, (DataW.weightsAll P e ds).all (· ≤ reachBytes) = true → ds[i]? = some d → (d.weights P e).all (· ≤ reachBytes) = true
  | [], i, d, _, h => by simp at h
  | d0 :: ds, i, d, hw, h => by
    unfold DataW.weightsAll at hw
    obtain ⟨h1, h2⟩ := all_append_l hw
    cases i with
    | zero =>
      simp only [List.getElem?_cons_zero, Option.some.injEq] at h
      subst h
      exact h1
    | succ i => exact all_weights h2 (by simpa using h)
theorem weights_cons {H : Type} {P : Program} {t : TypeId} {ts : List TypeId} {d : DataW H} {ds : List (DataW H)} (h : (DataW.weightsEach P (t :: ts) (d :: ds)).all (· ≤ reachBytes) = true) : (d.weights P t).all (· ≤ reachBytes) = true ∧ (DataW.weightsEach P ts ds).all (· ≤ reachBytes) = true := by
  unfold DataW.weightsEach at h
  exact all_append_l h
structure Opens (P : Program) {α : Type} (d : Kd α) (t : TypeId) (ok : α → Prop) : Prop where
  sz : P.cellsOf t = d.sz
  open_ : ∀ {H : Type} (enc : TypeId × Value → H) (w : World) (base fuel : Nat) (spare : Nat → Bool) (cs : List Value) (dt : DataW H) (ps : List MemPlace), DataW.trod enc P w base spare true fuel t cs = some (dt, ps) →
    (dt.weights P t).all (· ≤ reachBytes) = true → ∃ x : α, d.K w x cs ∧ ok x
variable {P : Program} {t e : TypeId}
theorem Opens.mono {α : Type} {d : Kd α} {ok ok' : α → Prop} (h : Opens P d t ok) (hk : ∀ x, ok x → ok' x) : Opens P d t ok' :=
  ⟨h.sz, fun enc w base fuel spare cs dt ps ht hw => by obtain ⟨x, h1, h2⟩ := h.open_ enc w base fuel spare cs dt ps ht hw; exact ⟨x, h1, hk x h2⟩⟩
theorem opens_int {k : IntKind} (hu : P.underlying t = some (.int k)) (hc : P.cellsOf t = 1) : Opens P (Kd.int k) t (fun x => (Lit.int k x).wf = true) where
  sz := hc
  open_ enc w base fuel spare cs dt ps h _ := by
    cases fuel with
    | zero => simp [DataW.trod] at h
    | succ n =>
      unfold DataW.trod at h
      rw [hu] at h
      split at h <;> simp_all
      rename_i k' n' _ _
      obtain ⟨⟨rfl, hwf⟩, _⟩ := h
      exact ⟨n', rfl, hwf⟩
theorem opens_bool (hu : P.underlying t = some .bool) (hc : P.cellsOf t = 1) : Opens P Kd.bool t (fun _ => True) where
  sz := hc
  open_ enc w base fuel spare cs dt ps h _ := by
    cases fuel with
    | zero => simp [DataW.trod] at h
    | succ n =>
      unfold DataW.trod at h
      rw [hu] at h
      rcases cs with _ | ⟨v, _ | ⟨_, _⟩⟩
      · cases h
      · cases v <;> first | (cases h; done) | exact ⟨_, rfl, trivial⟩
      · simp at h
theorem opens_slice {α : Type} {d : Kd α} {ok : α → Prop} {B : Nat} (hd : Opens P d e ok) (hu : P.underlying t = some (.slice e)) (hc : P.cellsOf t = 1) (hB : P.bytesOf e = B) : Opens P (Kd.slice e d) t (fun xs => xs.length * B ≤ 140737488351232 ∧ xs.length ≤ maxLen ∧ ∀ x ∈ xs, ok x) where
  sz := hc
  open_ {H} enc w base fuel spare cs dt ps h hw := by
    cases fuel with
    | zero => simp [DataW.trod] at h
    | succ n =>
      unfold DataW.trod at h
      rw [hu] at h
      rcases cs with _ | ⟨v, _ | ⟨_, _⟩⟩
      · cases h
      rotate_left
      · simp at h
      · cases v <;> first | (cases h; done) | skip
        rename_i a0 len cap
        cases a0 with
        | none =>
          cases len with
          | succ => simp at h
          | zero =>
            cases cap with
            | succ => simp at h
            | zero => exact ⟨[], ⟨none, 0, rfl, Nat.le_refl _, rfl, by simp, fun h => absurd h (Nat.lt_irrefl 0)⟩, by simp, by simp, by simp⟩
        | some a =>
        simp only at h
        split at h
        · rename_i hb
          obtain ⟨hb1, hb2, hb3⟩ := hb
          obtain ⟨elems, hel, h⟩ := Option.bind_eq_some_iff.1 h
          obtain ⟨rest, hre, h⟩ := Option.map_eq_some_iff.1 h
          simp only [Prod.mk.injEq] at h
          obtain ⟨hdt, _⟩ := h
          subst hdt
          obtain ⟨e1, e2⟩ := mapM_at hel
          rw [List.length_range] at e1
          simp only [DataW.weights, hu, List.all_cons, Bool.and_eq_true, decide_eq_true_eq, List.length_map, hB] at hw
          obtain ⟨hw1, hw2⟩ := hw
          obtain ⟨hw2, _⟩ := all_append_l hw2
          have each : ∀ i : Nat, i < len → ∃ x : α, ok x ∧ ∃ c : List Value, c.length = d.sz ∧ d.K w x c ∧ ∀ j u, c[j]? = some u → w.cell? (a.add (i * d.sz + j)) = some u := by
            intro i hi
            obtain ⟨y, hy, hf⟩ := e2 i i (by simp [hi])
            obtain ⟨c, hcell, htr⟩ := Option.bind_eq_some_iff.1 hf
            obtain ⟨x, hx1, hx2⟩ := hd.open_ enc w base n spare c y.1 y.2 htr (all_weights (i := i) hw2 (by simp [hy]))
            have hK := d.K_len hx1
            refine ⟨x, hx2, c, hK, hx1, fun j u hj => ?_⟩
            unfold World.cells? at hcell
            split at hcell
            · obtain ⟨_, e4⟩ := mapM_at hcell
              have hjl : j < c.length := (List.getElem?_eq_some_iff.1 hj).1
              obtain ⟨u', hu', hcu⟩ := e4 j j (by rw [hd.sz, List.getElem?_range (by omega)])
              rw [hj] at hu'
              injection hu' with hu'
              subst hu'
              have ha : (a.add (i * d.sz)).add j = a.add (i * d.sz + j) := by
                generalize i * d.sz = m
                unfold Addr.add
                by_cases h1 : m = 0 <;> by_cases h2 : j = 0 <;> simp [h1, h2, Nat.add_assoc]
              rw [hd.sz, ha] at hcu
              exact hcu
            · cases hcell
          have hlist : ∀ m : Nat, m ≤ len → ∃ xs : List α, xs.length = m ∧ (∀ x ∈ xs, ok x) ∧ ∀ j p, xs[j]? = some p → ∃ c : List Value, c.length = d.sz ∧ d.K w p c ∧ ∀ i u, c[i]? = some u → w.cell? (a.add (j * d.sz + i)) = some u := by
            intro m
            induction m with
            | zero => exact fun _ => ⟨[], rfl, by simp, fun j p h => by simp at h⟩
            | succ m ih =>
              intro hm
              obtain ⟨xs, h1, h2, h3⟩ := ih (by omega)
              obtain ⟨x, hx, c, hc1, hc2, hc3⟩ := each m (by omega)
              refine ⟨xs ++ [x], by simp [h1], fun y hy => ?_, fun j p hj => ?_⟩
              · rcases List.mem_append.1 hy with hy | hy
                · exact h2 y hy
                · rw [List.mem_singleton.1 hy]; exact hx
              · rcases Nat.lt_or_ge j xs.length with hlt | hge
                · rw [List.getElem?_append_left hlt] at hj
                  exact h3 j p hj
                · have hjm : j = m := by
                    have := (List.getElem?_eq_some_iff.1 hj).1
                    simp at this
                    omega
                  subst hjm
                  have hp : x = p := by simpa [h1] using hj
                  subst hp
                  exact ⟨c, hc1, hc2, hc3⟩
          obtain ⟨xs, h1, h2, h3⟩ := hlist len (Nat.le_refl _)
          subst h1
          refine ⟨xs, ⟨some a, cap, rfl, hb2, rfl, by simp only [maxLen] at hb3; omega, fun _ => ⟨a, rfl, h3⟩⟩, ?_, by omega, h2⟩
          rw [e1] at hw1
          simp only [reachBytes] at hw1
          exact Nat.le_trans (Nat.mul_le_mul_right _ (by omega)) hw1
        · cases h
structure OpensF (P : Program) {α : Type} (d : Kd α) (fs : List Field) (o : Nat) (ok : α → Prop) : Prop where
  run : ∀ {H : Type} (enc : TypeId × Value → H) (w : World) (base fuel : Nat) (spare : Nat → Bool) (cs : List Value) (xs : List (DataW H × List MemPlace)), cs.length = o + d.sz →
    fs.mapM (fun f => DataW.trod enc P w base spare true fuel f.type ((cs.drop f.offset).take (P.cellsOf f.type))) = some xs →
    (DataW.weightsEach P (fs.map (·.type)) (xs.map (·.1))).all (· ≤ reachBytes) = true → ∃ x : α, d.K w x (cs.drop o) ∧ ok x
theorem opensF_one {α : Type} {d : Kd α} {f : Field} {o : Nat} {ok : α → Prop} (h : Opens P d f.type ok) (ho : f.offset = o) : OpensF P d [f] o ok := by
  refine ⟨fun {H} enc w base fuel spare cs xs hl hm hw => ?_⟩
  obtain ⟨e1, e2⟩ := mapM_at hm
  obtain ⟨y, hy, hf⟩ := e2 0 f rfl
  rcases xs with _ | ⟨y', xs⟩
  · simp at hy
  simp only [List.getElem?_cons_zero, Option.some.injEq] at hy
  subst hy
  simp only [List.map_cons, DataW.weightsEach] at hw
  rw [h.sz, ho, List.take_of_length_le (by rw [List.length_drop]; omega)] at hf
  exact h.open_ enc w base fuel spare _ _ _ hf (all_append_l hw).1
theorem opensF_cons {α β : Type} {d : Kd α} {d2 : Kd β} {f : Field} {fs : List Field} {o : Nat} {ok : α → Prop} {ok2 : β → Prop} (h : Opens P d f.type ok) (ho : f.offset = o) (h2 : OpensF P d2 fs (o + d.sz) ok2) : OpensF P (Kd.pair d d2) (f :: fs) o (fun x => ok x.1 ∧ ok2 x.2) := by
  refine ⟨fun {H} enc w base fuel spare cs xs hl hm hw => ?_⟩
  have hl' : cs.length = o + (d.sz + d2.sz) := hl
  rw [List.mapM_cons] at hm
  obtain ⟨y, hy, hm⟩ := Option.bind_eq_some_iff.1 hm
  obtain ⟨ys, hys, hm⟩ := Option.bind_eq_some_iff.1 hm
  have hm' : some (y :: ys) = some xs := hm
  injection hm' with hm'
  subst hm'
  simp only [List.map_cons, DataW.weightsEach] at hw
  obtain ⟨w1, w2⟩ := all_append_l hw
  rw [h.sz, ho] at hy
  obtain ⟨x, hx, hox⟩ := h.open_ enc w base fuel spare _ y.1 y.2 hy w1
  obtain ⟨z, hz, hoz⟩ := h2.run enc w base fuel spare cs ys (by omega) hys w2
  refine ⟨(x, z), ⟨(cs.drop o).take d.sz, cs.drop (o + d.sz), ?_, hx, hz⟩, hox, hoz⟩
  rw [← List.drop_drop, List.take_append_drop]
theorem opens_struct {α β : Type} {d : Kd α} {fs : Array Field} {ok : α → Prop} {f : β → α} (g : α → β) (hfg : ∀ y, f (g y) = y) (hu : P.underlying t = some (.struct fs)) (hc : P.cellsOf t = d.sz) (h : OpensF P d fs.toList 0 ok) : Opens P (Kd.iso d f) t (fun x => ok (f x)) where
  sz := hc
  open_ {H} enc w base fuel spare cs dt ps h1 hw := by
    cases fuel with
    | zero => simp [DataW.trod] at h1
    | succ n =>
      unfold DataW.trod at h1
      rw [hu] at h1
      have h2 : (if cs.length = P.cellsOf t then (fs.toList.mapM fun f => DataW.trod enc P w base spare true n f.type ((cs.drop f.offset).take (P.cellsOf f.type))).map fun xs => (DataW.agg (xs.map (·.1)), xs.flatMap (·.2)) else none) = some (dt, ps) := by
        rcases cs with _ | ⟨v, _ | ⟨v2, cs⟩⟩
        · exact h1
        · cases v <;> exact h1
        · exact h1
      split at h2
      · rename_i hl
        obtain ⟨xs, hxs, h2⟩ := Option.map_eq_some_iff.1 h2
        simp only [Prod.mk.injEq] at h2
        obtain ⟨hdt, _⟩ := h2
        subst hdt
        simp only [DataW.weights, hu] at hw
        obtain ⟨x, hx, hox⟩ := h.run enc w base n spare cs xs (by omega) hxs hw
        refine ⟨g x, ?_, ?_⟩
        · show d.K w (f (g x)) cs
          rw [hfg]
          exact hx
        · rw [hfg]
          exact hox
      · cases h2
end
end Go.Proofs.YtpjbmgoagehjkaaH
end
section
namespace Go.Proofs.YtpjbmgoagehjkaaW.PrintWords
open Go Go.RowKit
class Up (w w' : World) : Prop where
  h : Below w.heap.size w w'
instance (w : World) : Up w w := ⟨Below.refl _ _⟩
instance (w w' : World) (o : Obj) [u : Up w w'] : Up w (w'.alloc o) := ⟨below_alloc u.h o⟩
instance (w w' : World) [u : Up w w'] : Up w w'.drew := ⟨below_drew1 u.h⟩
instance (w w' : World) (n : Nat) [u : Up w w'] : Up w (w'.drewN n) := ⟨pw_below_drewN u.h n⟩
theorem uR {α : Type} {d : Kd α} {e : TypeId} {w w' : World} {base : Nat} {ok : Nat → Prop} {v : Value} {xs : List α} [u : Up w w'] (h : d.R e w base ok v xs) : d.R e w' base ok v xs := Kd.R_below h u.h
theorem uB {w w' : World} {g : Nat} {o : Obj} [u : Up w w'] (h : w.heap[g]? = some o) : w'.heap[g]? = some o := blk_below h u.h

end Go.Proofs.YtpjbmgoagehjkaaW.PrintWords
end
