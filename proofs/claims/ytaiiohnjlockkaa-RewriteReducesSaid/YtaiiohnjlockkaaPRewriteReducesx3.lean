-- by hp.py of this repo, over the kit's print: Lean checks it
import Derived.Test.YtaiiohnjlockkaaPRewriteReducesx0
import Derived.Test.YtaiiohnjlockkaaPRewriteReducesx1
import Derived.Test.YtaiiohnjlockkaaPRewriteReducesx2
namespace Go.Proofs.Ytaiiohnjlockkaa.PRewriteReduces
open Go.RowKit Go.Proofs.YtaiiohnjlockkaaW.PrintWords Go.Proofs.YtaiiohnjlockkaaW.PrintLast Go.Proofs.YtaiiohnjlockkaaW.PrintMore
attribute [local go_sem] max2_int min2_int max_two min_two max_three min_three max_four min_four   -- for this text's walks alone
set_option linter.unusedVariables false
set_option linter.unusedSimpArgs false

/-! ### rewrite_reduce: function 38, by hand -/
open Go.Proofs.YtaiiohnjlockkaaH
def rewrite_reduce.l0 : Nat → List S41 → Int → Int → Int → List Int → Option (ByteArray × Int)
  | 0, _, _, _, _, _ => none
  | k + 1, x0, x7, x8, x9, x6 => (rewrite_redex.f k x0 x6 x8).bind fun t => if t.1 < 0 then some (strOfNums x6, 0) else if x9 ≥ 100000 then some (⟨#[]⟩, 3) else
      if 0 ≤ t.2 ∧ t.2 < x0.length ∧ 0 ≤ t.1 ∧ t.1 + (rd_T41 x0 t.2).f0.size ≤ x6.length ∧ x6.length + (rd_T41 x0 t.2).f1.size < 140737488355328 then
        rewrite_reduce.l0 k x0 x7 (mx 0 (wrap64 (wrap64 (t.1 - x7) + 1))) (wrap64 (x9 + 1)) (x6.take t.1.toNat ++ bytesOf (rd_T41 x0 t.2).f1 ++ x6.drop (t.1.toNat + (rd_T41 x0 t.2).f0.size)) else none
def rewrite_reduce.f (k : Nat) (l0 : List S41) (a1 : ByteArray) : Option (ByteArray × Int) :=
  if a1.size ≤ 140737488351232 then (rewrite_longest.f k l0).bind fun t => rewrite_reduce.l0 k l0 t 0 0 (bytesOf a1) else none
theorem rewrite_reduce.mono_l : ∀ k x0 x7 x8 x9 x6, LeO (rewrite_reduce.l0 k x0 x7 x8 x9 x6) (rewrite_reduce.l0 (k + 1) x0 x7 x8 x9 x6)
  | 0, _, _, _, _, _ => fun r h => by simp [rewrite_reduce.l0] at h
  | k + 1, x0, x7, x8, x9, x6 => by
    unfold rewrite_reduce.l0
    refine LeO.bind (rewrite_redex.mono _ _ _ _) (fun _ => ?_)
    exact LeO.ite (LeO.refl _) (LeO.ite (LeO.refl _) (LeO.ite (rewrite_reduce.mono_l _ _ _ _ _ _) (LeO.none _)))
theorem rewrite_reduce.mono : ∀ a0 a1 k, LeO (rewrite_reduce.f k a0 a1) (rewrite_reduce.f (k + 1) a0 a1) := by
  intro a0 a1 k
  unfold rewrite_reduce.f
  exact LeO.ite (LeO.bind (rewrite_longest.mono _ _) (fun _ => rewrite_reduce.mono_l _ _ _ _ _ _)) (LeO.none _)
set_option maxHeartbeats 8000000 in
set_option maxRecDepth 100000 in
theorem rewrite_reduce.calls (k : Nat) (A0 : Option Addr) (c0 : Nat) (l0 : List S41) (a1 : ByteArray) (r1 : ByteArray) (r2 : Int) (w : World) (hr0 : Kd.C k41 w A0 l0.length l0) (hc0 : l0.length ≤ c0) (h : rewrite_reduce.f k l0 a1 = some (r1, r2)) :
    Calls Try.prog 38 #[.slice A0 l0.length c0, .string a1] w fun e w' => e = .returned (.tuple #[.string r1, .int .i64 r2]) ∧ Below w.heap.size w w' := by
  have HR0 := Aside0.mk hr0
  have HC0 := Aside0.mk hc0
  clear hr0 hc0
  unfold rewrite_reduce.f at h
  by_cases ha : a1.size ≤ 140737488351232
  · rw [if_pos ha] at h
    obtain ⟨far, hfar, h1⟩ := Option.bind_eq_some_iff.1 h
    have HFAR := Aside0.mk hfar
    have H := Aside0.mk h1
    clear hfar h1 h
    have kb := fun W => print_bytes (P := Try.prog) 9 62 5 Try.underlying9 Try.underlying62 Try.underlying5 a1 W
    have hu41 := Try.underlying41
    go_enter Try.func38, Try.ntmps38
    go_wp2_with fail
    refine (rewrite_longest.calls k _ _ l0 far _ (Kd.C_below HR0.out (bytes_below (Below.refl _ _) (Nat.le_refl _) _ _)) HC0.out HFAR.out).mono ?_
    rintro e w1 ⟨rfl, hb1⟩
    have HB := Aside0.mk (below_step (bytes_below (Below.refl w.heap.size w) (Nat.le_refl _) 5 a1) hb1)
    have HC := Aside0.mk (Kd.C_below (Kd.C_of_reads (d := 0) (h1 := fun _ => rfl) (bytes_reads w 5 a1 (by omega))) hb1)
    go_wp2_with fail
    go_loopg [6, 8, 9] k (fun kq v6 v8 v9 w' => ∃ (A6 : Option Addr) (c6 : Nat) (x6 : List Int) (x8 x9 : Int), v6 = .slice A6 x6.length c6 ∧ v8 = .int .i64 x8 ∧ v9 = .int .i64 x9 ∧ Aside0 (rewrite_reduce.l0 kq l0 far x8 x9 x6 = some (r1, r2)) ∧ Aside0 (kq ≤ k) ∧ Aside0 (Kd.C (Kd.int .u8) w' A6 x6.length x6) ∧ Aside0 (x6.length ≤ c6) ∧ Aside0 (Below w.heap.size w w'))
    case atStart => exact ⟨_, _, bytesOf a1, 0, 0, by rw [bytesOf_length], rfl, rfl, H, ⟨Nat.le_refl _⟩, ⟨by rw [bytesOf_length]; exact HC.out⟩, ⟨by rw [bytesOf_length]; exact grownCap_ge _ _ _ _⟩, HB⟩
    case round =>
      clear HC HB H HFAR kb
      obtain ⟨A6, c6, x6, x8, x9, rfl, rfl, rfl, HA, HK, HC6, HL6, HB⟩ := hrel
      cases gk with
      | zero => exact absurd HA.out (by simp [rewrite_reduce.l0])
      | succ k1 =>
        have H := HA.out
        clear HA
        simp only [rewrite_reduce.l0] at H
        obtain ⟨⟨i1, i2⟩, hred, H1⟩ := Option.bind_eq_some_iff.1 H
        simp only at H1
        have HRED := Aside0.mk hred
        have H' := Aside0.mk H1
        clear H hred H1
        go_wp2_with fail
        refine (rewrite_redex.calls k1 _ _ l0 _ _ x6 x8 i1 i2 _ (Kd.C_below HR0.out HB.out) HC0.out HC6.out HL6.out HRED.out).mono ?_
        rintro e w2 ⟨rfl, hb2⟩
        have HB2 := Aside0.mk (below_step HB.out hb2)
        have HC2 := Aside0.mk (Kd.C_below HC6.out hb2)
        clear HB HC6
        have H := H'.out
        clear H'
        by_cases c1 : i1 < 0
        · rw [if_pos c1] at H
          simp only [Option.some.injEq, Prod.mk.injEq] at H
          obtain ⟨rfl, rfl⟩ := H
          have hcv := Kd.C_string (P := Try.prog) (A := A6) (c := c6) Try.underlying62 Try.underlying5 Try.underlying9 HC2.out
          have c1b : decide (i1 < 0) = true := decide_eq_true c1
          go_wp2
          go_ret2
          exact ⟨rfl, HB2.out⟩
        · rw [if_neg c1] at H
          have c1b : decide (i1 < 0) = false := decide_eq_false c1
          by_cases c2 : x9 ≥ 100000
          · rw [if_pos c2] at H
            simp only [Option.some.injEq, Prod.mk.injEq] at H
            obtain ⟨rfl, rfl⟩ := H
            have c2b : decide (100000 ≤ x9) = true := decide_eq_true c2
            go_wp2
            go_ret2
            exact ⟨rfl, HB2.out⟩
          · rw [if_neg c2] at H
            have c2b : decide (100000 ≤ x9) = false := decide_eq_false c2
            split at H
            · rename_i hc
              obtain ⟨d1, d2, d3, d4, d5⟩ := hc
              have H' := Aside0.mk H
              clear H
              obtain ⟨ad, ead, hx0, hx1⟩ := at_T41 (Kd.C_below HR0.out HB2.out) i2 d1 d2
              cases ead
              generalize hr : rd_T41 l0 i2 = rr at *
              have HR' := Aside0.mk hr
              clear hr
              have hi1 : i1 ≤ (x6.length : Int) := by omega
              obtain ⟨i5, hi5, _, hsz5, _⟩ := info_parts info5
              obtain ⟨hcutT, hAT, hCT⟩ := print_take_of (P := Try.prog) (Value.int .u8) 0 62 5 .i64 Try.underlying62 hi5 hsz5 A6 c6 x6 i1 d3 hi1 HL6.out
              obtain ⟨A7, hcutD, hAD, hCD⟩ := print_drop_of (P := Try.prog) (Value.int .u8) 0 62 5 .i64 Try.underlying62 hi5 hsz5 A6 c6 x6 (i1 + rr.f0.size) (by omega) d4 HL6.out
              have htk : (x6.take i1.toNat).length = i1.toNat := by rw [List.length_take]; omega
              rw [htk] at hAT hcutT
              have info5s : (Try.prog.info? 5).map (fun i => (i.zero, i.size, i.bytes)) = some (some (.int .u8 0), 1, 1) := info5
              have HAT := Aside0.mk hAT
              clear htk
              rw [List.length_drop] at hAD hCD hcutD
              have HAD := Aside0.mk hAD
              have HCT := Aside0.mk hCT
              have HCD := Aside0.mk hCD
              clear hAT hAD hCT hCD hi5 hsz5
              go_upto_region 12 with (fail)
              generalize hw3 : w2.alloc (Obj.cells #[Value.string rr.f0, Value.string rr.f1] 41) = w3
              have hblk : w3.heap[w2.heap.size]? = some (.cells #[Value.string rr.f0, Value.string rr.f1] 41 (0, 0)) := by rw [← hw3]; exact (MapKept.heap_alloc w2 _).1
              have HB3 := Aside0.mk (show Below w2.heap.size w2 w3 by rw [← hw3]; exact below_alloc (Below.refl _ _) _)
              have HS3 := Aside0.mk HB3.out.size
              have HBK := Aside0.mk hblk
              have hc3 : w3.cell? ⟨w2.heap.size, 0, none⟩ = some (.string rr.f0) := (blk_cell hblk 0).trans rfl
              have hd3 : w3.cell? ⟨w2.heap.size, 1, none⟩ = some (.string rr.f1) := (blk_cell hblk 1).trans rfl
              have HC3 := Aside0.mk (Kd.C_below HC2.out HB3.out)
              have HW3 := Aside0.mk (below_step HB2.out HB3.out)
              clear hw3 hblk hx0 hx1 HC2 HB2 HBK HS3 HB3
              have hlt : (x6.take i1.toNat).length ≤ x6.length := by rw [List.length_take]; omega
              have HLT := Aside0.mk hlt
              clear hlt
              apply wp_region_lit
              refine Kd.R_lit (Kd.int .u8) (w0 := w3) w3.heap.size 5 rfl (N := 37) rfl (xs := ([] : List Int)) (inner := []) (ok := fun _ => True) (okp := fun _ => True) (by go_simp) (Reps.none _ _) (fun _ hk => hk) trivial (Below.refl _ _) (Nat.le_refl _) (by simp) ?_
              intro v37 w4 ho4 hb4 hg4 hn4
              have HO4 := Aside0.mk ho4
              have HB4 := Aside0.mk hb4
              clear ho4 hb4 hg4 hn4
              go_wp2_with (first
                | ((with_reducible refine gate_builtin (b := .append) (xs := #[.tmp 37, .tmp 40]) rfl ?_); at_builtin; (refine Kd.R_append_row (Value.int .u8) 0 (h1 := fun _ => rfl) (w0 := w3) w3.heap.size rfl (.tmp 37) (.tmp 40) 62 5 (.int .u8 0) 1 rfl Try.underlying62 info5 rfl (by omega) v37 [] (x6.take i1.toNat) A6 _ c6 (fun _ => True) rfl rfl (fun _ _ => trivial) ?aO ?aR ?aB ?aS ?aL ?_); (case aO => exact HO4.out); (case aR => exact (Kd.C_of_reads (h1 := fun _ => rfl) (HAT.out _ (Kd.reads_of_C (Kd.C_below HC3.out HB4.out))))); (case aB => exact HB4.out); (case aS => exact Below.size HB4.out); (case aL => have := HLT.out; simp only [List.length_nil]; omega); intro v41 w5 ho hb hg hn; rw [List.nil_append] at ho; have HO5 := Aside0.mk ho; have HB5 := Aside0.mk hb; have hc5 := pw_cell_below hb hc3; have hd5 := pw_cell_below hb hd3; clear ho hb hg hn)
                | ((with_reducible refine gate_builtin (b := .append) (xs := #[.tmp 42, .tmp 44]) rfl ?_); at_builtin; (refine print_append_str (w0 := w3) w3.heap.size rfl (.tmp 42) (.tmp 44) 62 9 5 rfl Try.underlying62 Try.underlying9 info5s v41 (x6.take i1.toNat) rr.f1 rfl rfl ?aO ?aB ?aS ?aL ?_); (case aO => exact Kd.own_of_R HO5.out); (case aB => exact HB5.out); (case aS => exact Below.size HB5.out); (case aL => have := HLT.out; omega); intro v45 w6 ho hb hg; (have HO6 := Aside0.mk (Kd.R_of_own (h1 := fun _ => rfl) (enc := Value.int .u8) ho (ok := fun _ => True) (fun _ _ => trivial))); have HB6 := Aside0.mk hb; have hc6 := pw_cell_below hb hc3; have hd6 := pw_cell_below hb hd3; clear ho hb hg)
                | ((with_reducible refine gate_builtin (b := .append) (xs := #[.tmp 46, .tmp 53]) rfl ?_); at_builtin; (refine Kd.R_append_row (Value.int .u8) 0 (h1 := fun _ => rfl) (w0 := w3) w3.heap.size rfl (.tmp 46) (.tmp 53) 62 5 (.int .u8 0) 1 rfl Try.underlying62 info5 rfl (by omega) v45 (x6.take i1.toNat ++ bytesOf rr.f1) (x6.drop (i1 + rr.f0.size).toNat) A7 _ _ (fun _ => True) rfl rfl (fun _ _ => trivial) ?aO ?aR ?aB ?aS ?aL ?_); (case aO => exact HO6.out); (case aR => exact (Kd.C_of_reads (d := 0) (h1 := fun _ => rfl) (HAD.out _ (Kd.reads_of_C (Kd.C_below HC3.out HB6.out))))); (case aB => exact HB6.out); (case aS => exact Below.size HB6.out); (case aL => have := HLT.out; rw [List.length_append, bytesOf_length, List.length_take]; omega); intro v54 w7 ho hb hg hn; have HB7 := Aside0.mk hb; obtain ⟨A8, c8, eo⟩ := Kd.R_slice ho; subst eo; have HO7 := Aside0.mk ho; clear ho hb hg hn))
              all_goals (
                clear hc3 hd3 hc5 hd5 hc6 hd6 hcutT hcutD HO4 HO5 HO6 HB4 HB5 HB6 HC3 HAT HAD HCT HCD HLT
                go_roundg k1)
              all_goals (first | (case measure => omega) | skip)
              all_goals exact ⟨A8, c8, x6.take i1.toNat ++ bytesOf rr.f1 ++ x6.drop (i1 + rr.f0.size).toNat, mx 0 (wrap64 (wrap64 (i1 - far) + 1)), wrap64 (x9 + 1), by congr 1; simp only [List.length_append, List.length_take, List.length_drop]; omega, by congr 1; unfold mx; omega, rfl, ⟨by rw [show (i1 + (rr.f0.size : Int)).toNat = i1.toNat + rr.f0.size by omega]; exact H'.out⟩, ⟨by have := HK.out; omega⟩, ⟨(Kd.R_reads' HO7.out).2.2⟩, ⟨(Kd.R_reads' HO7.out).2.1⟩, ⟨below_step HW3.out HB7.out⟩⟩
            · cases H
  · rw [if_neg ha] at h
    cases h

/-! ### rewrite_Reduce: function 16 -/
def rewrite_Reduce.f (k : Nat) (l0 : List (S41)) (a1 : ByteArray) : Option (ByteArray × Int) := (rewrite_Validate.f k l0 6).bind fun t119 => (if t119 = 0 then ((word_Valid.f k a1 6).bind fun t120 => (if t120 = true then ((rewrite_reduce.f k l0 a1).bind fun bt121 => (some (bt121.1, bt121.2))) else (some ((⟨#[]⟩ : ByteArray), 1)))) else (some ((⟨#[]⟩ : ByteArray), t119)))
theorem rewrite_Reduce.mono : ∀ a0 a1 k, LeO (rewrite_Reduce.f k a0 a1) (rewrite_Reduce.f (k + 1) a0 a1) := by
  intro a0 a1 k
  unfold rewrite_Reduce.f
  repeat' first
      | (with_reducible exact rewrite_Validate.mono _ _ _)
      | (with_reducible exact rewrite_reduce.mono _ _ _)
      | (with_reducible exact word_Valid.mono _ _ _)
      | (with_reducible exact LeO.refl _)
      | (with_reducible exact LeO.none _)
      | (with_reducible refine LeO.ite ?_ ?_)
      | (with_reducible refine LeO.bind ?_ (fun _ => ?_))
      | exact rewrite_Validate.mono _ _ _
      | exact rewrite_reduce.mono _ _ _
      | exact word_Valid.mono _ _ _
      | exact LeO.none _
      | refine LeO.ite ?_ ?_
      | refine LeO.bind ?_ (fun _ => ?_)
set_option maxHeartbeats 8000000 in
set_option maxRecDepth 100000 in
theorem rewrite_Reduce.calls (k : Nat) (A0 : Option Addr) (c0 : Nat) (l0 : List (S41)) (a1 : ByteArray) (r1 : ByteArray) (r2 : Int) (w : World) (hr0 : Kd.C k41 w A0 l0.length l0) (hc0 : l0.length ≤ c0) (h : rewrite_Reduce.f k l0 a1 = some (r1, r2)) :
    Calls Try.prog 16 #[.slice A0 l0.length c0, .string a1] w fun e w' => e = .returned (.tuple #[.string r1, .int .i64 r2]) ∧ Below w.heap.size w w' := by
  have HR0 := Aside0.mk hr0
  have HC0 := Aside0.mk hc0
  clear hr0 hc0
  have HB := Aside0.mk (Below.refl w.heap.size w)
  have H : ((rewrite_Validate.f k l0 6).bind fun t119 => (if t119 = 0 then ((word_Valid.f k a1 6).bind fun t120 => (if t120 = true then ((rewrite_reduce.f k l0 a1).bind fun bt121 => (some (bt121.1, bt121.2))) else (some ((⟨#[]⟩ : ByteArray), 1)))) else (some ((⟨#[]⟩ : ByteArray), t119)))) = some (r1, r2) := h
  clear h
  replace H := Option.bind_eq_some_iff.mp H
  obtain ⟨t119, A30, H⟩ := H
  replace H : (if t119 = 0 then ((word_Valid.f k a1 6).bind fun t120 => (if t120 = true then ((rewrite_reduce.f k l0 a1).bind fun bt121 => (some (bt121.1, bt121.2))) else (some ((⟨#[]⟩ : ByteArray), 1)))) else (some ((⟨#[]⟩ : ByteArray), t119))) = some (r1, r2) := H
  have A3 := Aside0.mk A30
  clear A30
  by_cases c4 : t119 = 0
  · rw [if_pos c4] at H
    have c4b0 : (t119 == 0) = true := beq_iff_eq.mpr c4
    have c4b1 : (t119 != 0) = false := bne_eq_false_iff_eq.mpr c4
    clear c4
    replace H := Option.bind_eq_some_iff.mp H
    obtain ⟨t120, A50, H⟩ := H
    replace H : (if t120 = true then ((rewrite_reduce.f k l0 a1).bind fun bt121 => (some (bt121.1, bt121.2))) else (some ((⟨#[]⟩ : ByteArray), 1))) = some (r1, r2) := H
    have A5 := Aside0.mk A50
    clear A50
    by_cases c6 : t120 = true
    · subst c6
      have H1 : ((rewrite_reduce.f k l0 a1).bind fun bt121 => (some (bt121.1, bt121.2))) = some (r1, r2) := by rw [if_pos rfl] at H; exact H
      clear H
      have H := H1
      clear H1
      replace H := Option.bind_eq_some_iff.mp H
      obtain ⟨⟨t121, t122⟩, A70, H⟩ := H
      replace H : (some (t121, t122)) = some (r1, r2) := H
      have A7 := Aside0.mk A70
      clear A70
      simp only [Option.some.injEq, Prod.mk.injEq] at H
      obtain ⟨rfl, rfl⟩ := H
      go_enter Try.func16, Try.ntmps16
      go_wp2_with (first | ((with_reducible refine gate_callee (f := 13) rfl ?_); refine goesL_ (some 8) rfl rfl Try.func13 (by kernel_rfl) rfl #[.slice A0 l0.length c0, .int .i64 6] rfl (by (try simp only [List.map_toArray, List.map_cons, List.map_nil]); first | done | rfl | (simp only [List.length_drop, List.length_take]; rfl)) ?_; (with_reducible refine (rewrite_Validate.calls k _ _ l0 6 t119 _ ?side1 ?side2 A3.out).mono ?_); (case side1 => repeat (first | exact HR0.out | (with_reducible refine Kd.C_alloc ?_ _) | (with_reducible refine Kd.C_drewN ?_ _) | (with_reducible refine Kd.C_drew ?_))); (case side2 => exact HC0.out); rintro e w8 ⟨rfl, hb⟩; refine ⟨_, rfl, ?_⟩; have n0_ := Aside0.mk (below_step (by repeat (first | (with_reducible first | exact HB.out | apply below_alloc | apply pw_below_drewN | apply below_drew1) | exact HB.out)) hb); clear HB; have HB := n0_; clear n0_; (try clear hb); (try clear hb2); (try clear hk); (try clear hi)) | ((with_reducible refine gate_callee (f := 35) rfl ?_); refine goesL_ (some 13) rfl rfl Try.func35 (by kernel_rfl) rfl #[.string a1, .int .i64 6] rfl (by (try simp only [List.map_toArray, List.map_cons, List.map_nil]); first | done | rfl | (simp only [List.length_drop, List.length_take]; rfl)) ?_; (with_reducible refine (word_Valid.calls k a1 6 true _ A5.out).mono ?_); rintro e w' ⟨rfl, ⟨nd, rfl⟩⟩; refine ⟨_, rfl, ?_⟩) | ((with_reducible refine gate_callee (f := 38) rfl ?_); refine goesL_ (some 17) rfl rfl Try.func38 (by kernel_rfl) rfl #[.slice A0 l0.length c0, .string a1] rfl (by (try simp only [List.map_toArray, List.map_cons, List.map_nil]); first | done | rfl | (simp only [List.length_drop, List.length_take]; rfl)) ?_; (with_reducible refine (rewrite_reduce.calls k _ _ l0 a1 t121 t122 _ ?side1 ?side2 A7.out).mono ?_); (case side1 => repeat (first | exact (Kd.C_below HR0.out (by repeat (first | (with_reducible first | exact HB.out | apply below_alloc | apply pw_below_drewN | apply below_drew1) | exact HB.out))) | (with_reducible refine Kd.C_alloc ?_ _) | (with_reducible refine Kd.C_drewN ?_ _) | (with_reducible refine Kd.C_drew ?_))); (case side2 => exact HC0.out); rintro e w9 ⟨rfl, hb⟩; refine ⟨_, rfl, ?_⟩; have n0_ := Aside0.mk (below_step (by repeat (first | (with_reducible first | exact HB.out | apply below_alloc | apply pw_below_drewN | apply below_drew1) | exact HB.out)) hb); clear HB; have HB := n0_; clear n0_; (try clear hb); (try clear hb2); (try clear hk); (try clear hi)))
      go_ret2
      exact ⟨by first | rfl | (simp [errW_none, errW_some] <;> rfl) | (simp [*, errW_none, errW_some] <;> rfl), by repeat (first | (with_reducible first | exact HB.out | apply below_alloc | apply pw_below_drewN | apply below_drew1) | exact HB.out)⟩
    · replace c6 := Bool.eq_false_iff.mpr c6
      subst c6
      have H1 : (some ((⟨#[]⟩ : ByteArray), 1)) = some (r1, r2) := by rw [if_neg (show ¬ (false = true) by decide)] at H; exact H
      clear H
      have H := H1
      clear H1
      simp only [Option.some.injEq, Prod.mk.injEq] at H
      obtain ⟨rfl, rfl⟩ := H
      go_enter Try.func16, Try.ntmps16
      go_wp2_with (first | ((with_reducible refine gate_callee (f := 13) rfl ?_); refine goesL_ (some 8) rfl rfl Try.func13 (by kernel_rfl) rfl #[.slice A0 l0.length c0, .int .i64 6] rfl (by (try simp only [List.map_toArray, List.map_cons, List.map_nil]); first | done | rfl | (simp only [List.length_drop, List.length_take]; rfl)) ?_; (with_reducible refine (rewrite_Validate.calls k _ _ l0 6 t119 _ ?side1 ?side2 A3.out).mono ?_); (case side1 => repeat (first | exact HR0.out | (with_reducible refine Kd.C_alloc ?_ _) | (with_reducible refine Kd.C_drewN ?_ _) | (with_reducible refine Kd.C_drew ?_))); (case side2 => exact HC0.out); rintro e w10 ⟨rfl, hb⟩; refine ⟨_, rfl, ?_⟩; have n0_ := Aside0.mk (below_step (by repeat (first | (with_reducible first | exact HB.out | apply below_alloc | apply pw_below_drewN | apply below_drew1) | exact HB.out)) hb); clear HB; have HB := n0_; clear n0_; (try clear hb); (try clear hb2); (try clear hk); (try clear hi)) | ((with_reducible refine gate_callee (f := 35) rfl ?_); refine goesL_ (some 13) rfl rfl Try.func35 (by kernel_rfl) rfl #[.string a1, .int .i64 6] rfl (by (try simp only [List.map_toArray, List.map_cons, List.map_nil]); first | done | rfl | (simp only [List.length_drop, List.length_take]; rfl)) ?_; (with_reducible refine (word_Valid.calls k a1 6 false _ A5.out).mono ?_); rintro e w' ⟨rfl, ⟨nd, rfl⟩⟩; refine ⟨_, rfl, ?_⟩))
      go_ret2
      exact ⟨by first | rfl | (simp [errW_none, errW_some] <;> rfl) | (simp [*, errW_none, errW_some] <;> rfl), by repeat (first | (with_reducible first | exact HB.out | apply below_alloc | apply pw_below_drewN | apply below_drew1) | exact HB.out)⟩
  · rw [if_neg c4] at H
    have c4b0 : (t119 == 0) = false := beq_eq_false_iff_ne.mpr c4
    have c4b1 : (t119 != 0) = true := bne_iff_ne.mpr c4
    simp only [Option.some.injEq, Prod.mk.injEq] at H
    obtain ⟨rfl, rfl⟩ := H
    go_enter Try.func16, Try.ntmps16
    go_wp2_with (first | ((with_reducible refine gate_callee (f := 13) rfl ?_); refine goesL_ (some 8) rfl rfl Try.func13 (by kernel_rfl) rfl #[.slice A0 l0.length c0, .int .i64 6] rfl (by (try simp only [List.map_toArray, List.map_cons, List.map_nil]); first | done | rfl | (simp only [List.length_drop, List.length_take]; rfl)) ?_; (with_reducible refine (rewrite_Validate.calls k _ _ l0 6 t119 _ ?side1 ?side2 A3.out).mono ?_); (case side1 => repeat (first | exact HR0.out | (with_reducible refine Kd.C_alloc ?_ _) | (with_reducible refine Kd.C_drewN ?_ _) | (with_reducible refine Kd.C_drew ?_))); (case side2 => exact HC0.out); rintro e w11 ⟨rfl, hb⟩; refine ⟨_, rfl, ?_⟩; have n0_ := Aside0.mk (below_step (by repeat (first | (with_reducible first | exact HB.out | apply below_alloc | apply pw_below_drewN | apply below_drew1) | exact HB.out)) hb); clear HB; have HB := n0_; clear n0_; (try clear hb); (try clear hb2); (try clear hk); (try clear hi)))
    go_ret2
    exact ⟨by first | rfl | (simp [errW_none, errW_some] <;> rfl) | (simp [*, errW_none, errW_some] <;> rfl), by repeat (first | (with_reducible first | exact HB.out | apply below_alloc | apply pw_below_drewN | apply below_drew1) | exact HB.out)⟩

/-! ### semigrouplaw13_awake: function 15 -/
def semigrouplaw13_awake.f (k : Nat)  : Option (Bool) := (rewrite_Reduce.f k (([(⟨(⟨#[98, 97]⟩ : ByteArray), (⟨#[97, 98]⟩ : ByteArray)⟩ : S41)] : List (S41))) (⟨#[98, 97, 98]⟩ : ByteArray)).bind fun bt126 => (if bt126.2 = 0 then (some (bt126.1.toList == ([97, 98, 98] : List UInt8))) else (some false))
theorem semigrouplaw13_awake.mono : ∀ k, LeO (semigrouplaw13_awake.f k ) (semigrouplaw13_awake.f (k + 1) ) := by
  intro  k
  unfold semigrouplaw13_awake.f
  repeat' first
      | (with_reducible exact rewrite_Reduce.mono _ _ _)
      | (with_reducible exact LeO.refl _)
      | (with_reducible exact LeO.none _)
      | (with_reducible refine LeO.ite ?_ ?_)
      | (with_reducible refine LeO.bind ?_ (fun _ => ?_))
      | exact rewrite_Reduce.mono _ _ _
      | exact LeO.none _
      | refine LeO.ite ?_ ?_
      | refine LeO.bind ?_ (fun _ => ?_)
set_option maxHeartbeats 8000000 in
set_option maxRecDepth 100000 in
theorem semigrouplaw13_awake.calls (k : Nat)  (r : Bool) (w : World) (h : semigrouplaw13_awake.f k  = some r) :
    Calls Try.prog 15 #[] w fun e w' => e = .returned (.bool r) ∧ Below w.heap.size w w' := by
  have hu41 := Try.underlying41
  have HB := Aside0.mk (Below.refl w.heap.size w)
  have H : ((rewrite_Reduce.f k (([(⟨(⟨#[98, 97]⟩ : ByteArray), (⟨#[97, 98]⟩ : ByteArray)⟩ : S41)] : List (S41))) (⟨#[98, 97, 98]⟩ : ByteArray)).bind fun bt126 => (if bt126.2 = 0 then (some (bt126.1.toList == ([97, 98, 98] : List UInt8))) else (some false))) = some r := h
  clear h
  obtain ⟨y123, hy123⟩ : ∃ y_ : List (S41), y_ = (([(⟨(⟨#[98, 97]⟩ : ByteArray), (⟨#[97, 98]⟩ : ByteArray)⟩ : S41)] : List (S41))) := ⟨_, rfl⟩
  replace H : ((rewrite_Reduce.f k y123 (⟨#[98, 97, 98]⟩ : ByteArray)).bind fun bt126 => (if bt126.2 = 0 then (some (bt126.1.toList == ([97, 98, 98] : List UInt8))) else (some false))) = some r := by first | (rw [hy123]; with_reducible exact H) | (have H2_ := (Option.bind_some _ _).symm.trans H; rw [hy123]; with_reducible exact H2_) | (have H2_ := (Option.bind_some _ _).symm.trans H; with_reducible exact H2_) | with_reducible exact H | (rw [hy123]; exact H) | exact H
  have Ny123 := Aside0.mk hy123
  clear hy123
  replace H := Option.bind_eq_some_iff.mp H
  obtain ⟨⟨t126, t127⟩, A10, H⟩ := H
  replace H : (if t127 = 0 then (some (t126.toList == ([97, 98, 98] : List UInt8))) else (some false)) = some r := H
  have A1 := Aside0.mk A10
  clear A10
  by_cases c2 : t127 = 0
  · rw [if_pos c2] at H
    have c2b0 : (t127 == 0) = true := beq_iff_eq.mpr c2
    have c2b1 : (t127 != 0) = false := bne_eq_false_iff_eq.mpr c2
    clear c2
    obtain rfl := Option.some.inj H
    go_enter Try.func15, Try.ntmps15
    go_wp2_with (first | ((with_reducible refine gate_dst (N := 5) rfl ?_); refine Kd.R_lit k41 _ 41 ?hg (N := 5) ?hd (xs := ([(⟨(⟨#[98, 97]⟩ : ByteArray), (⟨#[97, 98]⟩ : ByteArray)⟩ : S41)] : List (S41))) (inner := [.string (⟨#[98, 97]⟩ : ByteArray), .string (⟨#[97, 98]⟩ : ByteArray)]) (ok := fun _ => True) (okp := fun _ => True) ?hr ?hp (fun _ hk => hk) trivial (Below.refl _ _) (Nat.le_refl _) (by simp) ?_; (case hd => rfl); (case hg => rfl); (case hr => first | (go_simp; done) | (go_simp; rfl)); (case hp => exact (Reps.c2 (show Kd.M k41 _ _ _ (⟨(⟨#[98, 97]⟩ : ByteArray), (⟨#[97, 98]⟩ : ByteArray)⟩ : S41) [.string (⟨#[98, 97]⟩ : ByteArray), .string (⟨#[97, 98]⟩ : ByteArray)] from (k41_mkM _ _ _ (⟨(⟨#[98, 97]⟩ : ByteArray), (⟨#[97, 98]⟩ : ByteArray)⟩ : S41) )) (Reps.none _ _))); intro v124 w3 ho4 hb hg_ hnew_; clear hg_ hnew_; (first | rw [← Ny123.out] at ho4 | (simp only [Int.reduceToNat] at ho4; rw [← Ny123.out] at ho4)); have n0_ := Aside0.mk (Kd.R_lower ho4 (below_size (by repeat (first | (with_reducible first | exact HB.out | apply below_alloc | apply pw_below_drewN | apply below_drew1) | exact HB.out)))); have n1_ := Aside0.mk (below_step (by repeat (first | (with_reducible first | exact HB.out | apply below_alloc | apply pw_below_drewN | apply below_drew1) | exact HB.out)) hb); clear HB; have HO125 := n0_; have HB := n1_; clear n0_ n1_; clear hb ho4; obtain ⟨Ao5, co5, eo5⟩ := Kd.R_slice HO125.out; subst eo5) | ((with_reducible refine gate_callee (f := 16) rfl ?_); refine goesL_ (some 6) rfl rfl Try.func16 (by kernel_rfl) rfl #[.slice Ao5 y123.length co5, .string (⟨#[98, 97, 98]⟩ : ByteArray)] rfl (by (try simp only [List.map_toArray, List.map_cons, List.map_nil]); first | done | rfl | (simp only [List.length_drop, List.length_take]; rfl)) ?_; (with_reducible refine (rewrite_Reduce.calls k _ _ y123 (⟨#[98, 97, 98]⟩ : ByteArray) t126 t127 _ ?side1 ?side2 A1.out).mono ?_); (case side1 => repeat (first | exact (Kd.R_reads' HO125.out).2.2 | (with_reducible refine Kd.C_alloc ?_ _) | (with_reducible refine Kd.C_drewN ?_ _) | (with_reducible refine Kd.C_drew ?_))); (case side2 => exact (Kd.R_reads' HO125.out).2.1); rintro e w6 ⟨rfl, hb⟩; refine ⟨_, rfl, ?_⟩; have n0_ := Aside0.mk (Kd.R_below (by (with_reducible repeat (first | apply Kd.R_alloc | apply Kd.R_drewN | apply Kd.R_drew)); exact HO125.out) hb); have n1_ := Aside0.mk (below_step (by repeat (first | (with_reducible first | exact HB.out | apply below_alloc | apply pw_below_drewN | apply below_drew1) | exact HB.out)) hb); clear HO125; clear HB; have HO125 := n0_; have HB := n1_; clear n0_ n1_; (try clear hb); (try clear hb2); (try clear hk); (try clear hi)))
    go_ret
    exact ⟨by first | rfl | (simp [errW_none, errW_some] <;> rfl) | (simp [*, errW_none, errW_some] <;> rfl), by repeat (first | (with_reducible first | exact HB.out | apply below_alloc | apply pw_below_drewN | apply below_drew1) | exact HB.out)⟩
  · rw [if_neg c2] at H
    have c2b0 : (t127 == 0) = false := beq_eq_false_iff_ne.mpr c2
    have c2b1 : (t127 != 0) = true := bne_iff_ne.mpr c2
    obtain rfl := Option.some.inj H
    go_enter Try.func15, Try.ntmps15
    go_wp2_with (first | ((with_reducible refine gate_dst (N := 5) rfl ?_); refine Kd.R_lit k41 _ 41 ?hg (N := 5) ?hd (xs := ([(⟨(⟨#[98, 97]⟩ : ByteArray), (⟨#[97, 98]⟩ : ByteArray)⟩ : S41)] : List (S41))) (inner := [.string (⟨#[98, 97]⟩ : ByteArray), .string (⟨#[97, 98]⟩ : ByteArray)]) (ok := fun _ => True) (okp := fun _ => True) ?hr ?hp (fun _ hk => hk) trivial (Below.refl _ _) (Nat.le_refl _) (by simp) ?_; (case hd => rfl); (case hg => rfl); (case hr => first | (go_simp; done) | (go_simp; rfl)); (case hp => exact (Reps.c2 (show Kd.M k41 _ _ _ (⟨(⟨#[98, 97]⟩ : ByteArray), (⟨#[97, 98]⟩ : ByteArray)⟩ : S41) [.string (⟨#[98, 97]⟩ : ByteArray), .string (⟨#[97, 98]⟩ : ByteArray)] from (k41_mkM _ _ _ (⟨(⟨#[98, 97]⟩ : ByteArray), (⟨#[97, 98]⟩ : ByteArray)⟩ : S41) )) (Reps.none _ _))); intro v124 w7 ho8 hb hg_ hnew_; clear hg_ hnew_; (first | rw [← Ny123.out] at ho8 | (simp only [Int.reduceToNat] at ho8; rw [← Ny123.out] at ho8)); have n0_ := Aside0.mk (Kd.R_lower ho8 (below_size (by repeat (first | (with_reducible first | exact HB.out | apply below_alloc | apply pw_below_drewN | apply below_drew1) | exact HB.out)))); have n1_ := Aside0.mk (below_step (by repeat (first | (with_reducible first | exact HB.out | apply below_alloc | apply pw_below_drewN | apply below_drew1) | exact HB.out)) hb); clear HB; have HO125 := n0_; have HB := n1_; clear n0_ n1_; clear hb ho8; obtain ⟨Ao9, co9, eo9⟩ := Kd.R_slice HO125.out; subst eo9) | ((with_reducible refine gate_callee (f := 16) rfl ?_); refine goesL_ (some 6) rfl rfl Try.func16 (by kernel_rfl) rfl #[.slice Ao9 y123.length co9, .string (⟨#[98, 97, 98]⟩ : ByteArray)] rfl (by (try simp only [List.map_toArray, List.map_cons, List.map_nil]); first | done | rfl | (simp only [List.length_drop, List.length_take]; rfl)) ?_; (with_reducible refine (rewrite_Reduce.calls k _ _ y123 (⟨#[98, 97, 98]⟩ : ByteArray) t126 t127 _ ?side1 ?side2 A1.out).mono ?_); (case side1 => repeat (first | exact (Kd.R_reads' HO125.out).2.2 | (with_reducible refine Kd.C_alloc ?_ _) | (with_reducible refine Kd.C_drewN ?_ _) | (with_reducible refine Kd.C_drew ?_))); (case side2 => exact (Kd.R_reads' HO125.out).2.1); rintro e w10 ⟨rfl, hb⟩; refine ⟨_, rfl, ?_⟩; have n0_ := Aside0.mk (Kd.R_below (by (with_reducible repeat (first | apply Kd.R_alloc | apply Kd.R_drewN | apply Kd.R_drew)); exact HO125.out) hb); have n1_ := Aside0.mk (below_step (by repeat (first | (with_reducible first | exact HB.out | apply below_alloc | apply pw_below_drewN | apply below_drew1) | exact HB.out)) hb); clear HO125; clear HB; have HO125 := n0_; have HB := n1_; clear n0_ n1_; (try clear hb); (try clear hb2); (try clear hk); (try clear hi)))
    go_ret
    exact ⟨by first | rfl | (simp [errW_none, errW_some] <;> rfl) | (simp [*, errW_none, errW_some] <;> rfl), by repeat (first | (with_reducible first | exact HB.out | apply below_alloc | apply pw_below_drewN | apply below_drew1) | exact HB.out)⟩

/-! ### rewrite_Reduced: function 17, by hand -/
open Go.Proofs.YtaiiohnjlockkaaH
def rewrite_Reduced.f (k : Nat) (l0 : List S41) (a1 : ByteArray) : Option Bool :=
  (rewrite_Validate.f k l0 6).bind fun t => if t = 0 then (word_Valid.f k a1 6).bind fun v => if v = true then (if a1.size ≤ 140737488351232 then (rewrite_redex.f k l0 (bytesOf a1) 0).bind fun q => some (decide (q.1 < 0)) else none) else some false else some false
theorem rewrite_Reduced.mono : ∀ a0 a1 k, LeO (rewrite_Reduced.f k a0 a1) (rewrite_Reduced.f (k + 1) a0 a1) := by
  intro a0 a1 k
  unfold rewrite_Reduced.f
  exact LeO.bind (rewrite_Validate.mono _ _ _) (fun _ => LeO.ite (LeO.bind (word_Valid.mono _ _ _) (fun _ => LeO.ite (LeO.ite (LeO.bind (rewrite_redex.mono _ _ _ _) (fun _ => LeO.refl _)) (LeO.none _)) (LeO.refl _))) (LeO.refl _))
set_option maxHeartbeats 8000000 in
set_option maxRecDepth 100000 in
theorem rewrite_Reduced.calls (k : Nat) (A0 : Option Addr) (c0 : Nat) (l0 : List S41) (a1 : ByteArray) (r : Bool) (w : World) (hr0 : Kd.C k41 w A0 l0.length l0) (hc0 : l0.length ≤ c0) (h : rewrite_Reduced.f k l0 a1 = some r) :
    Calls Try.prog 17 #[.slice A0 l0.length c0, .string a1] w fun e w' => e = .returned (.bool r) ∧ Below w.heap.size w w' := by
  have HR0 := Aside0.mk hr0
  have HC0 := Aside0.mk hc0
  clear hr0 hc0
  unfold rewrite_Reduced.f at h
  obtain ⟨t, ht, h1⟩ := Option.bind_eq_some_iff.1 h
  have HT := Aside0.mk ht
  clear h ht
  by_cases c1 : t = 0
  · rw [if_pos c1] at h1
    subst c1
    obtain ⟨v, hv, h2⟩ := Option.bind_eq_some_iff.1 h1
    have HV := Aside0.mk hv
    clear h1 hv
    by_cases c2 : v = true
    · subst c2
      rw [if_pos rfl] at h2
      by_cases ha : a1.size ≤ 140737488351232
      · rw [if_pos ha] at h2
        obtain ⟨⟨i1, i2⟩, hq, h3⟩ := Option.bind_eq_some_iff.1 h2
        have HQ := Aside0.mk hq
        simp only [Option.some.injEq] at h3
        clear hq h2
        have kb := fun W => print_bytes (P := Try.prog) 9 62 5 Try.underlying9 Try.underlying62 Try.underlying5 a1 W
        go_enter Try.func17, Try.ntmps17
        go_wp2_with fail
        refine (rewrite_Validate.calls k _ _ l0 6 0 _ HR0.out HC0.out HT.out).mono ?_
        rintro e w1 ⟨rfl, hb1⟩
        have HB := Aside0.mk hb1
        clear hb1
        go_wp2_with fail
        refine (word_Valid.calls k a1 6 true _ HV.out).mono ?_
        rintro e w2 ⟨rfl, hb2⟩
        have HB2 := Aside0.mk (below_step HB.out hb2.below)
        clear hb2 HB
        go_wp2_with fail
        have hcl := rewrite_redex.calls k A0 c0 l0 (some ⟨w2.heap.size, 0, none⟩) (grownCap w2 a1.size 0 5) (bytesOf a1) 0 i1 i2 (Lib.bytesWorld w2 5 a1) (Kd.C_below HR0.out (bytes_below HB2.out HB2.out.size _ _)) HC0.out (Kd.C_of_reads (d := 0) (h1 := fun _ => rfl) (by rw [bytesOf_length]; exact bytes_reads w2 5 a1 (by omega))) (by rw [bytesOf_length]; exact grownCap_ge _ _ _ _) HQ.out
        rw [bytesOf_length] at hcl
        refine hcl.mono ?_
        rintro e w3 ⟨rfl, hb3⟩
        have HB3 := Aside0.mk (below_step (bytes_below HB2.out HB2.out.size 5 a1) hb3)
        clear hb3 HB2
        go_wp2
        go_ret
        exact ⟨by rw [← h3]; rfl, HB3.out⟩
      · rw [if_neg ha] at h2
        cases h2
    · rw [if_neg c2] at h2
      obtain rfl : v = false := by simpa using c2
      injection h2 with h2
      subst h2
      go_enter Try.func17, Try.ntmps17
      go_wp2_with fail
      refine (rewrite_Validate.calls k _ _ l0 6 0 _ HR0.out HC0.out HT.out).mono ?_
      rintro e w1 ⟨rfl, hb1⟩
      have HB := Aside0.mk hb1
      clear hb1
      go_wp2_with fail
      refine (word_Valid.calls k a1 6 false _ HV.out).mono ?_
      rintro e w2 ⟨rfl, hb2⟩
      have HB2 := Aside0.mk (below_step HB.out hb2.below)
      clear hb2 HB
      go_wp2
      go_ret
      exact ⟨rfl, HB2.out⟩
  · rw [if_neg c1] at h1
    injection h1 with h1
    subst h1
    have c1b0 : (t == 0) = false := beq_false_of_ne c1
    have c1b1 : (t != 0) = true := by simp [bne, c1b0]
    go_enter Try.func17, Try.ntmps17
    go_wp2_with fail
    refine (rewrite_Validate.calls k _ _ l0 6 t _ HR0.out HC0.out HT.out).mono ?_
    rintro e w1 ⟨rfl, hb1⟩
    have HB := Aside0.mk hb1
    clear hb1
    go_wp2
    go_ret
    exact ⟨rfl, HB.out⟩

/-! ### semigroupref13_once: function 40, by hand -/
open Go.Proofs.YtaiiohnjlockkaaH
def once_j (rs : List S41) (s : ByteArray) (i : Nat) : Nat → Nat → Option Nat
  | 0, _ => none
  | d + 1, j => if (rd_T41 rs (j : Int)).f0.size + i ≤ s.size ∧ (s.extract i (i + (rd_T41 rs (j : Int)).f0.size)).toList = (rd_T41 rs (j : Int)).f0.toList then some j else once_j rs s i d (j + 1)
def once_i (rs : List S41) (s : ByteArray) : Nat → Nat → ByteArray × Bool
  | 0, _ => (s, false)
  | d + 1, i => match once_j rs s i rs.length 0 with
    | some j => (s.extract 0 i ++ (rd_T41 rs (j : Int)).f1 ++ s.extract (i + (rd_T41 rs (j : Int)).f0.size) s.size, true)
    | none => once_i rs s d (i + 1)
def semigroupref13_once.f (l0 : List S41) (a1 : ByteArray) : Option (ByteArray × Bool) :=
  if l0.length ≤ 2000 ∧ a1.size ≤ 4096 ∧ (∀ i : Fin a1.size, a1[i].toNat < 128) ∧ (∀ x ∈ l0, x.f0.size ≤ 4096 ∧ x.f1.size ≤ 4096) then some (once_i l0 a1 a1.size 0) else none
theorem below_two {B : Nat} {a b c : World} (h : Below B a b) (k : Below (B + 1) b c) : Below B a c :=
  h.trans ⟨k.os, k.tape, k.output, k.size, fun i hi => k.block i (Nat.lt_succ_of_lt hi)⟩
set_option maxHeartbeats 8000000 in
set_option maxRecDepth 100000 in
theorem semigroupref13_once.calls (A0 : Option Addr) (c0 : Nat) (l0 : List S41) (a1 : ByteArray) (r1 : ByteArray) (r2 : Bool) (w : World) (hr0 : Kd.C k41 w A0 l0.length l0) (hc0 : l0.length ≤ c0) (h : semigroupref13_once.f l0 a1 = some (r1, r2)) :
    Calls Try.prog 40 #[.slice A0 l0.length c0, .string a1] w fun e w' => e = .returned (.tuple #[.string r1, .bool r2]) ∧ Below w.heap.size w w' := by
  have HR0 := Aside0.mk hr0
  have HC0 := Aside0.mk hc0
  clear hr0 hc0
  unfold semigroupref13_once.f at h
  split at h
  case isFalse => cases h
  case isTrue hcond =>
  obtain ⟨n1, n2, n3, n4⟩ := hcond
  injection h with h
  have H0 := Aside0.mk h
  have N3 := Aside0.mk n3
  have N4 := Aside0.mk n4
  clear h n3 n4
  have hu41 := Try.underlying41
  go_enter Try.func40, Try.ntmps40
  go_wp2_with fail
  go_loopg [6] a1.size (fun kq v6 w' => ∃ i : Nat, Aside0 (a1.size = i + kq) ∧ Aside0 (w'.heap[w.heap.size]? = some (.stringIter a1 i)) ∧ Aside0 (Below w.heap.size w w') ∧ Aside0 (once_i l0 a1 kq i = (r1, r2)))
  case atStart => exact ⟨0, ⟨by omega⟩, ⟨World.iter_heap _ _ _⟩, ⟨below_alloc (Below.refl _ _) _⟩, H0⟩
  case round =>
    clear H0
    obtain ⟨i, HI, HT, HB, H⟩ := hrel
    cases gk with
    | zero =>
      have hi := HI.out
      have hnx := iter_end (P := Try.prog) HT.out (by omega)
      have h := H.out
      simp only [once_i, Prod.mk.injEq] at h
      obtain ⟨rfl, rfl⟩ := h
      go_wp2
      go_ret2
      exact ⟨rfl, HB.out⟩
    | succ k1 =>
      have hlt : i < a1.size := by have := HI.out; omega
      have hnx := iter_next (P := Try.prog) HT.out hlt (N3.out ⟨i, hlt⟩)
      have h := H.out
      simp only [once_i] at h
      have HH := Aside0.mk h
      have HSZ := Aside0.mk (World.iter_heap w a1 0)
      have hbs := HB.out.size
      have hws : w.heap.size < wr.heap.size := by
        have := HT.out
        rcases Nat.lt_or_ge w.heap.size wr.heap.size with h | h
        · exact h
        · rw [Array.getElem?_eq_none h] at this
          cases this
      have HT2 := Aside0.mk (iterAt_heap (s := a1) (p := i + 1) hws)
      have HB2 := Aside0.mk (iterAt_below (s := a1) (p := i + 1) HB.out (Nat.le_refl _))
      clear h H HSZ hbs
      generalize hw2 : iterAt wr w.heap.size a1 (i + 1) = w2 at hnx HT2 HB2
      clear hw2 HB HT hws
      go_wp2_with fail
      go_loopg [16] l0.length (fun kq v16 w' => ∃ j : Nat, v16 = .int .i64 j ∧ Aside0 (l0.length = j + kq) ∧ Aside0 (Below (w.heap.size + 1) w2 w') ∧ Aside0 (once_j l0 a1 i l0.length 0 = once_j l0 a1 i kq j))
      case atStart => exact ⟨0, rfl, ⟨by omega⟩, ⟨Below.refl _ _⟩, ⟨rfl⟩⟩
      case round =>
        clear hnx
        obtain ⟨j, rfl, HJ, HBQ, HO⟩ := hrel
        cases gk with
        | zero =>
          have c1 : ¬ ((j : Int) < l0.length) := by have := HJ.out; omega
          go_wp2
          go_roundg k1
          case measure => omega
          case rel =>
            refine ⟨i + 1, ⟨by have := HI.out; omega⟩, ⟨by rw [HBQ.out.block _ (Nat.lt_succ_self _)]; exact HT2.out⟩, ⟨below_two HB2.out HBQ.out⟩, ⟨?_⟩⟩
            have h1 := HH.out
            rw [HO.out] at h1
            exact h1
        | succ d =>
          have p1 : (0 : Int) ≤ (j : Int) := by omega
          have q1 : (j : Int) < (l0.length : Int) := by have := HJ.out; omega
          obtain ⟨ad, ead, hx0, hx1⟩ := at_T41 (Kd.C_below HR0.out (below_two HB2.out HBQ.out)) (j : Int) p1 q1
          cases ead
          simp only [Int.toNat_natCast] at hx0 hx1
          have hmem : rd_T41 l0 (j : Int) ∈ l0 := by
            have hj : j < l0.length := by have := HJ.out; omega
            simp [rd_T41, List.getD, hj]
          have hsz := N4.out _ hmem
          clear hmem
          generalize hr : rd_T41 l0 (j : Int) = rr at *
          have HR' := Aside0.mk hr
          clear hr
          go_upto_region 7 with (fail)
          generalize hw3 : wr.alloc (Obj.cells #[Value.string rr.f0, Value.string rr.f1] 41) = w3
          have hblk : w3.heap[wr.heap.size]? = some (.cells #[Value.string rr.f0, Value.string rr.f1] 41 (0, 0)) := by rw [← hw3]; exact (MapKept.heap_alloc wr _).1
          have hsz2 : w.heap.size < w2.heap.size := by
            have := HT2.out
            rcases Nat.lt_or_ge w.heap.size w2.heap.size with h | h
            · exact h
            · rw [Array.getElem?_eq_none h] at this
              cases this
          have HB3 := Aside0.mk (show Below (w.heap.size + 1) w2 w3 by rw [← hw3]; exact HBQ.out.alloc (by have := HBQ.out.size; omega) _)
          have hc3 : w3.cell? ⟨wr.heap.size, 0, none⟩ = some (.string rr.f0) := (blk_cell hblk 0).trans rfl
          have hd3 : w3.cell? ⟨wr.heap.size, 1, none⟩ = some (.string rr.f1) := (blk_cell hblk 1).trans rfl
          clear hw3 hblk hx0 hx1 hsz2
          have w1 : IntKind.i64.wrap ((a1.size : Int) - i) = (a1.size : Int) - i := by rw [IntKind.wrap_i64]; omega
          have w2_ : IntKind.i64.wrap ((i : Int) + rr.f0.size) = (i : Int) + rr.f0.size := by rw [IntKind.wrap_i64]; omega
          by_cases c1 : (rr.f0.size : Int) ≤ (a1.size : Int) - i
          · have c1b : decide ((rr.f0.size : Int) ≤ IntKind.i64.wrap ((a1.size : Int) - i)) = true := decide_eq_true (by rw [w1]; exact c1)
            have c1c : ((rr.f0.size : Int) ≤ IntKind.i64.wrap ((a1.size : Int) - i)) := by rw [w1]; exact c1
            have hsl : ∀ W : World, (Instr.slice 9 (.string a1) (some (.int .i64 (i : Int))) (some (.int .i64 ((i : Int) + rr.f0.size))) none).run Try.prog W = .ok (.string (a1.extract i (i + rr.f0.size))) W := fun W => by
              have h := run_slice_string (P := Try.prog) 9 a1 .i64 .i64 (i : Int) ((i : Int) + rr.f0.size) Try.underlying9 (by omega) (by omega) (by omega) (w := W)
              rw [show ((i : Int) + rr.f0.size).toNat = i + rr.f0.size by omega] at h
              exact h
            have hSl := Aside0.mk hsl
            by_cases c2 : (a1.extract i (i + rr.f0.size)).toList = rr.f0.toList
            · have c2b : ((a1.extract i (i + rr.f0.size)).toList == rr.f0.toList) = true := by rw [beq_iff_eq]; exact c2
              have hs43 : ∀ W : World, (Instr.slice 9 (.string a1) none (some (.int .i64 (i : Int))) none).run Try.prog W = .ok (.string (a1.extract 0 i)) W := fun W => by
                have h := run_slice_string_h (P := Try.prog) W 9 a1 Try.underlying9 .i64 (i : Int) (by omega) (by omega)
                exact h
              have hs53 : ∀ W : World, (Instr.slice 9 (.string a1) (some (.int .i64 ((i : Int) + rr.f0.size))) none none).run Try.prog W = .ok (.string (a1.extract (i + rr.f0.size) a1.size)) W := fun W => by
                have h := run_slice_string_l (P := Try.prog) W 9 a1 Try.underlying9 .i64 ((i : Int) + rr.f0.size) (by omega) (by omega)
                rw [show ((i : Int) + rr.f0.size).toNat = i + rr.f0.size by omega] at h
                exact h
              have hcA : ∀ W : World, (Op.stringOp .add (a1.extract 0 i) rr.f1).run Try.prog W = .ok (.string (a1.extract 0 i ++ rr.f1)) W := fun W => run_string_add W _ _ (by rw [ByteArray.size_extract]; omega) (by omega)
              have hcB : ∀ W : World, (Op.stringOp .add (a1.extract 0 i ++ rr.f1) (a1.extract (i + rr.f0.size) a1.size)).run Try.prog W = .ok (.string (a1.extract 0 i ++ rr.f1 ++ a1.extract (i + rr.f0.size) a1.size)) W := fun W => run_string_add W _ _ (by rw [ByteArray.size_append, ByteArray.size_extract]; omega) (by rw [ByteArray.size_extract]; omega)
              go_region_held3 (fun w' => w'.cell? ⟨wr.heap.size, 0, none⟩ = some (.string rr.f0)) (go_keep) (fail)
              all_goals go_wp2
              go_region_held3 (fun w' => w'.cell? ⟨wr.heap.size, 0, none⟩ = some (.string rr.f0) ∧ w'.cell? ⟨wr.heap.size, 1, none⟩ = some (.string rr.f1)) (go_keep) (fail)
              all_goals go_wp2
              all_goals go_ret2
              all_goals exact ⟨by have h1 := HH.out; rw [HO.out, once_j, HR'.out, if_pos ⟨by omega, c2⟩] at h1; simp only [HR'.out, Prod.mk.injEq] at h1; obtain ⟨rfl, rfl⟩ := h1; rfl, below_drew (below_drew (below_two HB2.out HB3.out))⟩
            · have c2b : ((a1.extract i (i + rr.f0.size)).toList == rr.f0.toList) = false := by rw [beq_eq_false_iff_ne]; exact c2
              go_region_held3 (fun w' => w'.cell? ⟨wr.heap.size, 0, none⟩ = some (.string rr.f0)) (go_keep) (fail)
              all_goals go_wp2
              all_goals go_roundg d
              all_goals first | (case measure => omega) | skip
              all_goals exact ⟨j + 1, by first | rfl | (congr 1) | simp, ⟨by have := HJ.out; omega⟩, ⟨below_drew HB3.out⟩, ⟨by rw [HO.out, once_j, HR'.out, if_neg (fun h => c2 h.2)]⟩⟩
          · have c1b : decide ((rr.f0.size : Int) ≤ IntKind.i64.wrap ((a1.size : Int) - i)) = false := decide_eq_false (by rw [w1]; exact c1)
            have c1c : ¬ ((rr.f0.size : Int) ≤ IntKind.i64.wrap ((a1.size : Int) - i)) := by rw [w1]; exact c1
            go_region
            all_goals go_wp2
            all_goals go_roundg d
            all_goals first | (case measure => omega) | skip
            all_goals exact ⟨j + 1, by first | rfl | (congr 1) | simp, ⟨by have := HJ.out; omega⟩, ⟨below_drew HB3.out⟩, ⟨by rw [HO.out, once_j, HR'.out, if_neg (fun h => by have := h.1; omega)]⟩⟩

/-! ### semigroupref13_Reduce: function 19 -/
def semigroupref13_Reduce.l0 : Nat → List (S41) → ByteArray → Int → Option (ByteArray × Int)
  | 0, _, _, _ => none
  | k + 1, x0, x1, x6 => (semigroupref13_once.f x0 x1).bind fun bt129 => (if bt129.2 = true then (if x6 = 100000 then (some ((⟨#[]⟩ : ByteArray), 3)) else (semigroupref13_Reduce.l0 k x0 bt129.1 (wrap64 (x6 + 1)))) else (some (x1, 0)))
def semigroupref13_Reduce.f (k : Nat) (l0 : List (S41)) (a1 : ByteArray) : Option (ByteArray × Int) := (semigroupref01_Valid.f k a1 6).bind fun t128 => (if t128 = true then (semigroupref13_Reduce.l0 k l0 a1 0) else (some ((⟨#[]⟩ : ByteArray), 1)))
theorem semigroupref13_Reduce.mono_l : ∀ k, (∀ y0 y1 y2, LeO (semigroupref13_Reduce.l0 k y0 y1 y2) (semigroupref13_Reduce.l0 (k + 1) y0 y1 y2))
  | 0 => fun _ _ _ r h => by simp [semigroupref13_Reduce.l0] at h
  | k + 1 => by
    have ih0 := semigroupref13_Reduce.mono_l k
    · intro y0 y1 y2
      unfold semigroupref13_Reduce.l0
      repeat' first
      | (with_reducible exact ih0 _ _ _)
      | (with_reducible exact semigroupref01_Valid.mono _ _ _)
      | (with_reducible exact LeO.refl _)
      | (with_reducible exact LeO.none _)
      | (with_reducible refine LeO.ite ?_ ?_)
      | (with_reducible refine LeO.bind ?_ (fun _ => ?_))
      | exact ih0 _ _ _
      | exact semigroupref01_Valid.mono _ _ _
      | exact LeO.none _
      | refine LeO.ite ?_ ?_
      | refine LeO.bind ?_ (fun _ => ?_)
theorem semigroupref13_Reduce.mono : ∀ a0 a1 k, LeO (semigroupref13_Reduce.f k a0 a1) (semigroupref13_Reduce.f (k + 1) a0 a1) := by
  intro a0 a1 k
  have ih0 := semigroupref13_Reduce.mono_l k
  unfold semigroupref13_Reduce.f
  repeat' first
      | (with_reducible exact ih0 _ _ _)
      | (with_reducible exact semigroupref01_Valid.mono _ _ _)
      | (with_reducible exact LeO.refl _)
      | (with_reducible exact LeO.none _)
      | (with_reducible refine LeO.ite ?_ ?_)
      | (with_reducible refine LeO.bind ?_ (fun _ => ?_))
      | exact ih0 _ _ _
      | exact semigroupref01_Valid.mono _ _ _
      | exact LeO.none _
      | refine LeO.ite ?_ ?_
      | refine LeO.bind ?_ (fun _ => ?_)
set_option maxHeartbeats 8000000 in
set_option maxRecDepth 100000 in
theorem semigroupref13_Reduce.calls (k : Nat) (A0 : Option Addr) (c0 : Nat) (l0 : List (S41)) (a1 : ByteArray) (r1 : ByteArray) (r2 : Int) (w : World) (hr0 : Kd.C k41 w A0 l0.length l0) (hc0 : l0.length ≤ c0) (h : semigroupref13_Reduce.f k l0 a1 = some (r1, r2)) :
    Calls Try.prog 19 #[.slice A0 l0.length c0, .string a1] w fun e w' => e = .returned (.tuple #[.string r1, .int .i64 r2]) ∧ Below w.heap.size w w' := by
  have HR0 := Aside0.mk hr0
  have HC0 := Aside0.mk hc0
  clear hr0 hc0
  have HB := Aside0.mk (Below.refl w.heap.size w)
  have H : ((semigroupref01_Valid.f k a1 6).bind fun t128 => (if t128 = true then (semigroupref13_Reduce.l0 k l0 a1 0) else (some ((⟨#[]⟩ : ByteArray), 1)))) = some (r1, r2) := h
  clear h
  replace H := Option.bind_eq_some_iff.mp H
  obtain ⟨t128, A30, H⟩ := H
  replace H : (if t128 = true then (semigroupref13_Reduce.l0 k l0 a1 0) else (some ((⟨#[]⟩ : ByteArray), 1))) = some (r1, r2) := H
  have A3 := Aside0.mk A30
  clear A30
  by_cases c4 : t128 = true
  · subst c4
    have H1 : (semigroupref13_Reduce.l0 k l0 a1 0) = some (r1, r2) := by rw [if_pos rfl] at H; exact H
    clear H
    have H := H1
    clear H1
    have H' := Aside0.mk H
    clear H
    go_enter Try.func19, Try.ntmps19
    go_wp2_with (first | ((with_reducible refine gate_callee (f := 18) rfl ?_); refine goesL_ (some 10) rfl rfl Try.func18 (by kernel_rfl) rfl #[.string a1, .int .i64 6] rfl (by (try simp only [List.map_toArray, List.map_cons, List.map_nil]); first | done | rfl | (simp only [List.length_drop, List.length_take]; rfl)) ?_; (with_reducible refine (semigroupref01_Valid.calls k a1 6 true _ A3.out).mono ?_); rintro e w' ⟨rfl, ⟨nd, rfl⟩⟩; refine ⟨_, rfl, ?_⟩))
    go_loopg [1, 6] k (fun kq v1 v6 w' => ∃ (x1_1 : ByteArray) (x6_1 : Int), v1 = .string x1_1 ∧ v6 = .int .i64 x6_1 ∧ Aside0 (semigroupref13_Reduce.l0 kq l0 x1_1 x6_1 = some (r1, r2)) ∧ Aside0 (kq ≤ k) ∧ Aside0 (Below w.heap.size w w'))
    case atStart => exact ⟨(a1), (0), (by first | rfl | (simp; done) | (simp [*]; done)), (by first | rfl | (simp; done) | (simp [*]; done)), H', ⟨Nat.le_refl _⟩, ⟨by repeat (first | (with_reducible first | exact HB.out | apply below_alloc | apply pw_below_drewN | apply below_drew1) | exact HB.out)⟩⟩
    case round =>
      clear H'
      try clear c1
      try clear p2
      try clear c4
      obtain ⟨x1_1, x6_1, rfl, rfl, HA, HK1, HB⟩ := hrel
      cases gk with
      | zero => exact absurd HA.out (by simp [semigroupref13_Reduce.l0])
      | succ k1 =>
        have H := HA.out
        clear HA
        simp only [semigroupref13_Reduce.l0] at H
        replace H := Option.bind_eq_some_iff.mp H
        obtain ⟨⟨t129, t130⟩, A50, H⟩ := H
        replace H : (if t130 = true then (if x6_1 = 100000 then (some ((⟨#[]⟩ : ByteArray), 3)) else (semigroupref13_Reduce.l0 k1 l0 t129 (wrap64 (x6_1 + 1)))) else (some (x1_1, 0))) = some (r1, r2) := H
        have A5 := Aside0.mk A50
        clear A50
        by_cases c6 : t130 = true
        · subst c6
          have H1 : (if x6_1 = 100000 then (some ((⟨#[]⟩ : ByteArray), 3)) else (semigroupref13_Reduce.l0 k1 l0 t129 (wrap64 (x6_1 + 1)))) = some (r1, r2) := by rw [if_pos rfl] at H; exact H
          clear H
          have H := H1
          clear H1
          by_cases c7 : x6_1 = 100000
          · rw [if_pos c7] at H
            have c7b0 : (x6_1 == 100000) = true := beq_iff_eq.mpr c7
            have c7b1 : (x6_1 != 100000) = false := bne_eq_false_iff_eq.mpr c7
            clear c7
            simp only [Option.some.injEq, Prod.mk.injEq] at H
            obtain ⟨rfl, rfl⟩ := H
            go_wp2_with (first | ((with_reducible refine gate_callee (f := 40) rfl ?_); refine goesL_ (some 17) rfl rfl Try.func40 (by kernel_rfl) rfl #[.slice A0 l0.length c0, .string x1_1] rfl (by (try simp only [List.map_toArray, List.map_cons, List.map_nil]); first | done | rfl | (simp only [List.length_drop, List.length_take]; rfl)) ?_; (with_reducible refine (semigroupref13_once.calls _ _ l0 x1_1 t129 true _ ?side1 ?side2 A5.out).mono ?_); (case side1 => repeat (first | exact (Kd.C_below HR0.out HB.out) | (with_reducible refine Kd.C_alloc ?_ _) | (with_reducible refine Kd.C_drewN ?_ _) | (with_reducible refine Kd.C_drew ?_))); (case side2 => exact HC0.out); rintro e w8 ⟨rfl, hb⟩; refine ⟨_, rfl, ?_⟩; have n0_ := Aside0.mk (below_step (by repeat (first | (with_reducible first | exact HB.out | apply below_alloc | apply pw_below_drewN | apply below_drew1) | exact HB.out)) hb); clear HB; have HB := n0_; clear n0_; (try clear hb); (try clear hb2); (try clear hk); (try clear hi)))
            go_ret2
            exact ⟨by first | rfl | (simp [errW_none, errW_some] <;> rfl) | (simp [*, errW_none, errW_some] <;> rfl), by repeat (first | (with_reducible first | exact HB.out | apply below_alloc | apply pw_below_drewN | apply below_drew1) | exact HB.out)⟩
          · rw [if_neg c7] at H
            have c7b0 : (x6_1 == 100000) = false := beq_eq_false_iff_ne.mpr c7
            have c7b1 : (x6_1 != 100000) = true := bne_iff_ne.mpr c7
            have H' := Aside0.mk H
            clear H
            go_wp2_with (first | ((with_reducible refine gate_callee (f := 40) rfl ?_); refine goesL_ (some 17) rfl rfl Try.func40 (by kernel_rfl) rfl #[.slice A0 l0.length c0, .string x1_1] rfl (by (try simp only [List.map_toArray, List.map_cons, List.map_nil]); first | done | rfl | (simp only [List.length_drop, List.length_take]; rfl)) ?_; (with_reducible refine (semigroupref13_once.calls _ _ l0 x1_1 t129 true _ ?side1 ?side2 A5.out).mono ?_); (case side1 => repeat (first | exact (Kd.C_below HR0.out HB.out) | (with_reducible refine Kd.C_alloc ?_ _) | (with_reducible refine Kd.C_drewN ?_ _) | (with_reducible refine Kd.C_drew ?_))); (case side2 => exact HC0.out); rintro e w9 ⟨rfl, hb⟩; refine ⟨_, rfl, ?_⟩; have n0_ := Aside0.mk (below_step (by repeat (first | (with_reducible first | exact HB.out | apply below_alloc | apply pw_below_drewN | apply below_drew1) | exact HB.out)) hb); clear HB; have HB := n0_; clear n0_; (try clear hb); (try clear hb2); (try clear hk); (try clear hi)))
            go_roundg k1
            case measure => have := HK1.out; omega
            case rel => exact ⟨(t129), (wrap64 (x6_1 + 1)), (by first | rfl | (simp; done) | (simp [*]; done)), (by first | rfl | (simp; done) | (simp [*]; done)), H', ⟨by have := HK1.out; omega⟩, ⟨by repeat (first | (with_reducible first | exact HB.out | apply below_alloc | apply pw_below_drewN | apply below_drew1) | exact HB.out)⟩⟩
        · replace c6 := Bool.eq_false_iff.mpr c6
          subst c6
          have H1 : (some (x1_1, 0)) = some (r1, r2) := by rw [if_neg (show ¬ (false = true) by decide)] at H; exact H
          clear H
          have H := H1
          clear H1
          simp only [Option.some.injEq, Prod.mk.injEq] at H
          obtain ⟨rfl, rfl⟩ := H
          go_wp2_with (first | ((with_reducible refine gate_callee (f := 40) rfl ?_); refine goesL_ (some 17) rfl rfl Try.func40 (by kernel_rfl) rfl #[.slice A0 l0.length c0, .string x1_1] rfl (by (try simp only [List.map_toArray, List.map_cons, List.map_nil]); first | done | rfl | (simp only [List.length_drop, List.length_take]; rfl)) ?_; (with_reducible refine (semigroupref13_once.calls _ _ l0 x1_1 t129 false _ ?side1 ?side2 A5.out).mono ?_); (case side1 => repeat (first | exact (Kd.C_below HR0.out HB.out) | (with_reducible refine Kd.C_alloc ?_ _) | (with_reducible refine Kd.C_drewN ?_ _) | (with_reducible refine Kd.C_drew ?_))); (case side2 => exact HC0.out); rintro e w10 ⟨rfl, hb⟩; refine ⟨_, rfl, ?_⟩; have n0_ := Aside0.mk (below_step (by repeat (first | (with_reducible first | exact HB.out | apply below_alloc | apply pw_below_drewN | apply below_drew1) | exact HB.out)) hb); clear HB; have HB := n0_; clear n0_; (try clear hb); (try clear hb2); (try clear hk); (try clear hi)))
          go_ret2
          exact ⟨by first | rfl | (simp [errW_none, errW_some] <;> rfl) | (simp [*, errW_none, errW_some] <;> rfl), by repeat (first | (with_reducible first | exact HB.out | apply below_alloc | apply pw_below_drewN | apply below_drew1) | exact HB.out)⟩
  · replace c4 := Bool.eq_false_iff.mpr c4
    subst c4
    have H1 : (some ((⟨#[]⟩ : ByteArray), 1)) = some (r1, r2) := by rw [if_neg (show ¬ (false = true) by decide)] at H; exact H
    clear H
    have H := H1
    clear H1
    simp only [Option.some.injEq, Prod.mk.injEq] at H
    obtain ⟨rfl, rfl⟩ := H
    go_enter Try.func19, Try.ntmps19
    go_wp2_with (first | ((with_reducible refine gate_callee (f := 18) rfl ?_); refine goesL_ (some 10) rfl rfl Try.func18 (by kernel_rfl) rfl #[.string a1, .int .i64 6] rfl (by (try simp only [List.map_toArray, List.map_cons, List.map_nil]); first | done | rfl | (simp only [List.length_drop, List.length_take]; rfl)) ?_; (with_reducible refine (semigroupref01_Valid.calls k a1 6 false _ A3.out).mono ?_); rintro e w' ⟨rfl, ⟨nd, rfl⟩⟩; refine ⟨_, rfl, ?_⟩))
    go_ret2
    exact ⟨by first | rfl | (simp [errW_none, errW_some] <;> rfl) | (simp [*, errW_none, errW_some] <;> rfl), by repeat (first | (with_reducible first | exact HB.out | apply below_alloc | apply pw_below_drewN | apply below_drew1) | exact HB.out)⟩

/-! ### semigroupref13_Reduced: function 20 -/
def semigroupref13_Reduced.f (l0 : List (S41)) (a1 : ByteArray) : Option (Bool) := (semigroupref13_once.f l0 a1).bind fun bt131 => (some (!bt131.2))
set_option maxHeartbeats 8000000 in
set_option maxRecDepth 100000 in
theorem semigroupref13_Reduced.calls (A0 : Option Addr) (c0 : Nat) (l0 : List (S41)) (a1 : ByteArray) (r : Bool) (w : World) (hr0 : Kd.C k41 w A0 l0.length l0) (hc0 : l0.length ≤ c0) (h : semigroupref13_Reduced.f l0 a1 = some r) :
    Calls Try.prog 20 #[.slice A0 l0.length c0, .string a1] w fun e w' => e = .returned (.bool r) ∧ Below w.heap.size w w' := by
  have HR0 := Aside0.mk hr0
  have HC0 := Aside0.mk hc0
  clear hr0 hc0
  have HB := Aside0.mk (Below.refl w.heap.size w)
  have H : ((semigroupref13_once.f l0 a1).bind fun bt131 => (some (!bt131.2))) = some r := h
  clear h
  replace H := Option.bind_eq_some_iff.mp H
  obtain ⟨⟨t131, t132⟩, A30, H⟩ := H
  replace H : (some (!t132)) = some r := H
  have A3 := Aside0.mk A30
  clear A30
  obtain rfl := Option.some.inj H
  go_enter Try.func20, Try.ntmps20
  go_wp2_with (first | ((with_reducible refine gate_callee (f := 40) rfl ?_); refine goesL_ (some 10) rfl rfl Try.func40 (by kernel_rfl) rfl #[.slice A0 l0.length c0, .string a1] rfl (by (try simp only [List.map_toArray, List.map_cons, List.map_nil]); first | done | rfl | (simp only [List.length_drop, List.length_take]; rfl)) ?_; (with_reducible refine (semigroupref13_once.calls _ _ l0 a1 t131 t132 _ ?side1 ?side2 A3.out).mono ?_); (case side1 => repeat (first | exact HR0.out | (with_reducible refine Kd.C_alloc ?_ _) | (with_reducible refine Kd.C_drewN ?_ _) | (with_reducible refine Kd.C_drew ?_))); (case side2 => exact HC0.out); rintro e w4 ⟨rfl, hb⟩; refine ⟨_, rfl, ?_⟩; have n0_ := Aside0.mk (below_step (by repeat (first | (with_reducible first | exact HB.out | apply below_alloc | apply pw_below_drewN | apply below_drew1) | exact HB.out)) hb); clear HB; have HB := n0_; clear n0_; (try clear hb); (try clear hb2); (try clear hk); (try clear hi)))
  go_ret
  exact ⟨by first | rfl | (simp [errW_none, errW_some] <;> rfl) | (simp [*, errW_none, errW_some] <;> rfl), by repeat (first | (with_reducible first | exact HB.out | apply below_alloc | apply pw_below_drewN | apply below_drew1) | exact HB.out)⟩

end Go.Proofs.Ytaiiohnjlockkaa.PRewriteReduces
