/- A store into a map leaves all rows as they are. -/
import Derived.Test.YtpjbmgoagehjkaaHMap
import Derived.Test.YtpjbmgoagehjkaaWWords
import Derived.Test.YtpjbmgoagehjkaaWApart
namespace Go.Proofs.YtpjbmgoagehjkaaH
open Go Go.RowKit Go.Proofs.YtpjbmgoagehjkaaW.PrintWords
section
variable {K V α : Type} {ek : K → Value} {ev : V → Value} {w w1 : World} {base base' b e : Nat} {m : List (K × V)} {d : Kd α} {ok : Nat → Prop} {v : Value} {xs : List α} {row : Option Nat}
theorem map_ne (hm : OwnM ek ev w base' b m) {k : Nat} {cells : Array Value} {q : TypeId} (hk : w.heap[k]? = some (.cells cells q (0, 0))) : some k ≠ some b := by
  intro he
  injection he with he
  subst he
  obtain ⟨_, es, clock, hb, _⟩ := hm
  rw [hk] at hb
  cases hb
theorem R_map (h : d.R e w base ok v xs) (hm : OwnM ek ev w base' b m) (hg : w.grownBy w1 (some b)) : d.R e w1 base ok v xs :=
  Kd.R_mono (Kd.R_grown (Kd.R_bound h) hg (fun k hk => by obtain ⟨_, _, _, q, _, cells, hc⟩ := hk; exact map_ne hm hc)) (fun k hk => hk.1)
theorem S_map (h : Kd.S d e w base ok v xs) (hm : OwnM ek ev w base' b m) (hg : w.grownBy w1 (some b)) : Kd.S d e w1 base ok v xs :=
  Kd.S_mono (Kd.S_grown (Kd.S_bound h) hg (fun k hk => by obtain ⟨_, _, _, q, _, cells, hc⟩ := hk; exact map_ne hm hc)) (fun k hk => hk.1)
theorem below_map {B : Nat} {w0 : World} (h : Below B w0 w) (hm : OwnM ek ev w B b m) (hB : B ≤ w.heap.size) (hg : w.grownBy w1 (some b)) : Below B w0 w1 :=
  h.grown hg hB (fun k hk => by cases hk; exact hm.1)
end
section
variable {P : Program} {W : World} {ops : Array Oper} {rest : List Oper} {o : Oper} {a : Act} {Q : Exit → Act → World → Prop}
/-- A cut whose run is known. -/
theorem cut_run {e : TypeId} {N : Tmp} (_hN : o.dst = some N) (hg : o.guard = none) {t : TypeId} {x : Operand} {lo hi : Option Operand} (ht : P.underlying t = some (.slice e)) (hop : o.op = .slice t x lo hi none) {A : Option Addr} {n c : Nat} {l h : Option Value} {r : Value}
    (hrun : ∀ W : World, (Instr.slice t (.slice A n c) l h none).run P W = .ok r W) (hx : a.eval x = .slice A n c) (hl : lo.map a.eval = l) (hh : hi.map a.eval = h) (hK : wpList P ops Q rest (a.put o.dst r) W) : wpList P ops Q (o :: rest) a W := by
  refine Kd.event_run hg (v := r) (w1 := W) ?_ hK
  have h1 : (Instr.sliceAt t (.slice A n c) l h none).run P W = .ok r W := by
    simp [Instr.sliceAt, run_underlying ht, Result.andThen]
    exact hrun W
  simp [execOp, hop, hx, hl, hh, h1, Result.andThen]
end
end Go.Proofs.YtpjbmgoagehjkaaH
