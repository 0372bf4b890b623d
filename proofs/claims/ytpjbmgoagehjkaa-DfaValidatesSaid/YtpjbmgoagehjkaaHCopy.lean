/- 'copy' into a row of the call's own. -/
import Derived.Test.YtpjbmgoagehjkaaWWords
import Derived.Test.YtpjbmgoagehjkaaWMore
import Derived.Laws.CopyOwn
namespace Go.Proofs.YtpjbmgoagehjkaaH
set_option linter.unusedSimpArgs false
open Go Go.RowKit Go.Proofs.YtpjbmgoagehjkaaW.PrintWords
def copyL {α : Type} (xs ys : List α) : List α := ys.take xs.length ++ xs.drop ys.length
theorem copyL_length {α : Type} (xs ys : List α) : (copyL xs ys).length = xs.length := by
  simp [copyL]; omega
theorem grown_refl (W : World) (row : Option Nat) : W.grownBy W row := ⟨rfl, rfl, rfl, Nat.le_refl _, fun _ _ _ => rfl⟩
theorem grown_setRow (W : World) (g : Nat) (cs : Array Value) : W.grownBy (W.setRow g cs) (some g) :=
  ⟨rfl, rfl, rfl, by simp [World.setRow], fun k _ hne => setRow_other W g k cs (fun e => hne (by rw [e]))⟩
theorem ne_typed {W : World} {u v : Value} {e e' : Nat} (hu : ∀ k, u.ownBlock = some k → ∃ cells, W.heap[k]? = some (.cells cells e (0, 0))) (hv : ∀ k, v.ownBlock = some k → ∃ cells, W.heap[k]? = some (.cells cells e' (0, 0))) (ht : e ≠ e') : ∀ b, u.ownBlock = some b → some b ≠ v.ownBlock := by
  intro b hb he
  obtain ⟨c1, h1⟩ := hu b hb
  obtain ⟨c2, h2⟩ := hv b he.symm
  rw [h1] at h2
  injection h2 with h2
  injection h2 with _ h2
  exact ht h2
section
variable {α : Type} {P : Program} {ops : Array Oper} {rest : List Oper} {o : Oper} {a : Act} {Q : Exit → Act → World → Prop}
theorem R_copy_rows (enc : α → Value) (d : α) {h1 : ∀ x : α, (enc x).oneCell' = true} {w0 W : World} (base : Nat) (hgd : o.guard = none) (s x : Operand) (t t2 e : TypeId)
    (ho : o.op = .call { callee := .builtin .copy, args := #[s, x], argTypes := #[t, t2] }) (ht : P.underlying t = some (.slice e)) (hinfo : (P.info? e).map (·.size) = some 1)
    (v : Value) (xs ys : List α) (A : Option Addr) (m c : Nat) (ok : Nat → Prop) (hs : a.eval s = v) (hx : a.eval x = .slice A m c)
    (HO : (Kd.scalar enc h1).R e W base ok v xs) (HR : (Kd.scalar enc h1).C W A m ys) (HB : Below base w0 W) (hbase : base ≤ W.heap.size)
    (h : ∀ w1, (Kd.scalar enc h1).R e w1 base ok v (copyL xs ys) → Below base w0 w1 → W.grownBy w1 v.ownBlock → wpList P ops Q rest (a.put o.dst (goInt (Nat.min ys.length xs.length))) w1) :
    wpList P ops Q (o :: rest) a W := by
  have hO := Kd.own_of_R HO
  have hR := Kd.reads_of_C (d := d) HR
  have hm : m = ys.length := hR.1.symm
  subst hm
  by_cases h0 : Nat.min ys.length xs.length = 0
  · have hc : copyL xs ys = xs := by
      unfold copyL
      rcases Nat.min_eq_zero_iff.1 h0 with h2 | h2
      · have : ys = [] := List.eq_nil_of_length_eq_zero h2
        simp [this]
      · have : xs = [] := List.eq_nil_of_length_eq_zero h2
        simp [this]
    have h' := h W (by rw [hc]; exact HO) HB (grown_refl _ _)
    rw [h0] at h'
    rcases hO.2 with ⟨hv, hn⟩ | ⟨g, cap, cur, hv, _⟩
    · exact wpList_copy_nothing hgd s x t t2 ho e ht hinfo none A 0 0 ys.length c (by rw [hs, hv]) hx (Nat.min_zero _) h'
    · exact wpList_copy_nothing hgd s x t t2 ho e ht hinfo _ A xs.length cap ys.length c (by rw [hs, hv]) hx h0 h'
  · rcases hO.2 with ⟨hv, hn⟩ | ⟨g, cap, cur, hv, hg0, hcur, hcap, hmx, hsz, htk⟩
    · exact absurd (by rw [hn]; exact Nat.min_zero _) h0
    · have hy : 0 < ys.length := by have : Nat.min ys.length xs.length ≤ ys.length := Nat.min_le_left _ _; omega
      obtain ⟨ad, rfl, hcell⟩ := hR.2.2 hy
      have hl : (encs enc (ys.take xs.length)).length = Nat.min ys.length xs.length := by simp [encs]; exact Nat.min_comm _ _
      have hmin : Nat.min ys.length xs.length ≤ xs.length := Nat.min_le_right _ _
      have hsz' : cur.size = cap := by omega
      have hl2 : xs.length ≤ cur.toList.length := by simp; omega
      refine wpList_copy_own hgd s x t t2 ho e ht hinfo g 0 xs.length cap ad ys.length c (by rw [hs, hv]) hx cur e hcur (encs enc (ys.take xs.length)) hl ?_ (by rw [hl]; omega) ?_ ?_
      · intro j u hj
        rw [show encs enc (ys.take xs.length) = (ys.take xs.length).map enc from rfl, List.getElem?_map] at hj
        cases hyj : (ys.take xs.length)[j]? with
        | none => rw [hyj] at hj; cases hj
        | some y =>
          rw [hyj] at hj
          have hj2 : j < ys.length := by
            have := (List.getElem?_eq_some_iff.1 hyj).1
            simp at this; omega
          have hc := hcell j hj2
          have hyy : ys.getD j d = y := by
            have h3 : ys[j]? = some y := by
              rw [List.getElem?_take] at hyj
              split at hyj
              · exact hyj
              · cases hyj
            simp [List.getD, h3]
          rw [hyy] at hc
          rw [hc]
          exact hj
      · intro u hu
        rw [show encs enc (ys.take xs.length) = (ys.take xs.length).map enc from rfl] at hu
        obtain ⟨y, _, rfl⟩ := List.mem_map.1 hu
        exact h1 y
      · rw [hl]
        refine h _ (Kd.R_of_own ⟨by rw [copyL_length]; simp [encs, copyL_length], .inr ⟨g, cap, _, by rw [copyL_length]; exact hv, hg0, setRow_heap W g _ _ e _ hcur, by rw [copyL_length]; exact hcap, hmx, ?_, ?_⟩⟩ (HO.1)) (HB.grown (grown_setRow W g _) hbase (fun k hk => by cases hk; exact hg0)) (by rw [hv]; exact grown_setRow W g _)
        · simp only [List.take_zero, List.nil_append, Nat.zero_add, List.size_toArray, List.length_append, List.length_drop]
          simp only [Array.length_toList]
          omega
        · simp only [List.take_zero, List.nil_append, Nat.zero_add, Nat.mul_one, List.toList_toArray]
          rw [copyL_length]
          have hx2 : encs enc xs = cur.toList.take xs.length := by rw [← htk, Nat.mul_one]
          unfold copyL
          rw [show encs enc (ys.take xs.length ++ xs.drop ys.length) = encs enc (ys.take xs.length) ++ (encs enc xs).drop ys.length from by simp [encs], hx2]
          rw [List.take_append]
          have h5 : Nat.min ys.length xs.length = min ys.length xs.length := rfl
          rw [List.take_of_length_le (by rw [hl]; omega), hl]
          congr 1
          rw [List.drop_take, List.take_drop]
          by_cases hle : ys.length ≤ xs.length
          · have : Nat.min ys.length xs.length = ys.length := Nat.min_eq_left hle
            rw [this, List.take_drop]
          · have : Nat.min ys.length xs.length = xs.length := Nat.min_eq_right (by omega)
            rw [this]
            simp
            omega
end
/-- A row that becomes an element's row. -/
theorem FK_of_R {α : Type} {d : Kd α} {e base n c : Nat} {ok : Nat → Prop} {W : World} {A : Option Addr} {xs : List α} (h : d.R e W base ok (.slice A n c) xs) : (Kd.slice e d).FK W ok xs [.slice A n c] := by
  have h1 := (Kd.R_reads' h).1
  subst h1
  exact Kd.FK_slice_mk (Kd.R_reads' h).2.1 (Kd.R_F h)
theorem FK_of_S {α : Type} {d : Kd α} {e base n c : Nat} {ok : Nat → Prop} {W : World} {A : Option Addr} {xs : List α} (h : Kd.S d e W base ok (.slice A n c) xs) : (Kd.slice e d).FK W ok xs [.slice A n c] := by
  have h1 := (Kd.S_reads' h).1
  subst h1
  exact Kd.FK_slice_mk (Kd.S_reads' h).2.1 (Kd.S_F h)
theorem FK_of_N {α : Type} {d : Kd α} {e base n c : Nat} {ok : Nat → Prop} {W : World} {A : Option Addr} {xs : List α} (h : Kd.N d e W base ok (.slice A n c) xs) : (Kd.slice e d).FK W ok xs [.slice A n c] := by
  have h1 := (Kd.N_reads' h).1
  subst h1
  exact Kd.FK_slice_mk (Kd.N_reads' h).2.1 (Kd.N_F h)
theorem FK_of_V {α : Type} {d : Kd α} {e base n c : Nat} {ok : Nat → Prop} {W : World} {A : Option Addr} {xs : List α} (h : Kd.V d e W base ok (.slice A n c) xs) : (Kd.slice e d).FK W ok xs [.slice A n c] := by
  have h1 := (Kd.V_reads' h).1
  subst h1
  exact Kd.FK_slice_mk (Kd.V_reads' h).2.1 (Kd.V_F h)
theorem FK_of_Q {α : Type} {d : Kd α} {e base n c : Nat} {ok : Nat → Prop} {W : World} {A : Option Addr} {xs : List α} (h : d.Q e W base ok (.slice A n c) xs) : (Kd.slice e d).FK W ok xs [.slice A n c] := by
  have h1 := (Kd.Q_reads' h).1
  subst h1
  exact Kd.FK_slice_mk (Kd.Q_reads' h).2.1 (Kd.Q_F h)
end Go.Proofs.YtpjbmgoagehjkaaH
