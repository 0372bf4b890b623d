/- A range over a string whose iterator stands among other blocks. -/
import Derived.Test.YtpjbmgoagehjkaaWWords
import Derived.Laws.RangeAny
namespace Go.Proofs.YtpjbmgoagehjkaaH
open Go Go.RowKit Go.Proofs.YtpjbmgoagehjkaaW.PrintWords
/-- The iterator at block b moved on. -/
def iterAt (W : World) (b : Nat) (s : ByteArray) (p : Nat) : World := { W with heap := W.heap.setIfInBounds b (.stringIter s p) }
theorem iterAt_heap {W : World} {b : Nat} {s : ByteArray} {p : Nat} (h : b < W.heap.size) : (iterAt W b s p).heap[b]? = some (.stringIter s p) := by
  simp [iterAt, h]
theorem iterAt_size {W : World} {b : Nat} {s : ByteArray} {p : Nat} : (iterAt W b s p).heap.size = W.heap.size := by simp [iterAt]
theorem iterAt_below {W w : World} {B b : Nat} {s : ByteArray} {p : Nat} (h : Below B w W) (hb : B ≤ b) : Below B w (iterAt W b s p) := by
  refine ⟨h.os, h.tape, h.output, by rw [iterAt_size]; exact h.size, fun k hk => ?_⟩
  rw [← h.block k hk]
  simp [iterAt, Array.getElem?_setIfInBounds]
  omega
section
variable {P : Program}
theorem iter_next {W : World} {b : Nat} {s : ByteArray} {p : Nat} (hb : W.heap[b]? = some (.stringIter s p)) (h : p < s.size) (ha : (s[p]'h).toNat < 128) (ty : TypeId) :
    (Instr.next (.pointer (some ⟨b, 0, none⟩)) true ty).run P W = .ok (.tuple #[.bool true, .int .i64 p, .int .i32 (s[p]'h).toNat]) (iterAt W b s (p + 1)) := by
  simp only [Instr.next, getObj, setObj, Sem.run_bind, Sem.run, hb, Result.andThen, h, if_true, decode_ascii s p h ha]
  simp [goInt, iterAt]
theorem iter_end {W : World} {b : Nat} {s : ByteArray} {p : Nat} (hb : W.heap[b]? = some (.stringIter s p)) (h : ¬ p < s.size) (ty : TypeId) :
    (Instr.next (.pointer (some ⟨b, 0, none⟩)) true ty).run P W = .ok (.tuple #[.bool false]) W := by
  simp [Instr.next, getObj, Sem.run, hb, h]
end
end Go.Proofs.YtpjbmgoagehjkaaH
