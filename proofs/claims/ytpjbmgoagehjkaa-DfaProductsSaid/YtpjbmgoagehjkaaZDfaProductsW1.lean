/- Words of the walk: what this law's texts name. -/
import Derived.Test.YtpjbmgoagehjkaaZDfaProductsW0
section
namespace Go.Proofs.YtpjbmgoagehjkaaH
set_option linter.unusedSimpArgs false
open Go Go.RowKit Go.Proofs.YtpjbmgoagehjkaaW.PrintWords
def Forked (w w1 : World) (v v1 : Value) (n : Nat) : Prop :=
  (∃ g cap, v = .slice (some ⟨g, 0, none⟩) n cap ∧ v1 = .slice (some ⟨g, 0, none⟩) (n + 1) cap) ∨ (w.grownBy w1 none ∧ ∀ k, v1.ownBlock = some k → w.heap.size ≤ k)
theorem run_append_fork {P : Program} (w : World) (base : Nat) (t ty e : TypeId) (i : TypeInfo) (z : Value) (bytes : Nat) (ht : P.underlying t = some (.slice e)) (hi : P.info? e = some i) (hz : i.zero = some z)
    (hsize : i.size = 1) (hby : i.bytes = bytes) (hzs : z.cells.size = 1) (v : Value) (n : Nat) (xs : List Value) (hown : w.ownsRow base e 1 v n xs)
    (a : Addr) (c : Nat) (news : List Value) (hl : news.length = 1) (hnews : ∀ j u, news[j]? = some u → w.cell? (a.add j) = some u) (h1 : ∀ u ∈ news, u.oneCell' = true)
    (h63 : n + 1 ≤ maxLen) (hbytes : (n + 1) * bytes ≤ 140737488355328) (hbase : base ≤ w.heap.size) :
    ∃ v' w', (Builtin.append_ #[t, t] ty #[v, .slice (some a) 1 c]).run P w = .ok v' w' ∧ w'.ownsRow base e 1 v' (n + 1) (xs ++ news) ∧ w.grownBy w' v.ownBlock ∧
      (v'.ownBlock = v.ownBlock ∨ v'.ownBlock = some w.heap.size) ∧ Forked w w' v v' n := by
  obtain ⟨v1, w1, hr, hown1, hg, _, hat⟩ := run_append_own_at (P := P) w base t ty e i z 1 bytes ht hi hz hsize hby hzs (by omega) v n xs hown a 1 c news (by rw [hl]) hnews h1 h63 hbytes hbase
  refine ⟨v1, w1, hr, hown1, hg, hat, ?_⟩
  subst hby
  have h63' : n + 1 ≤ 9223372036854775807 := by simp only [maxLen] at h63; omega
  have news' : news.length = 1 * i.size := by rw [hl, hsize]
  rcases hown.2 with ⟨rfl, rfl⟩ | ⟨g, cap, cur, rfl, hbg, hgg, hnc, hcm, hcs, htake⟩
  · have hr2 := run_append_nil (P := P) w t ty e i z ht hi hz a 1 c news news' hnews (by omega) (by omega) (by have hb := hbytes; simp only [Nat.zero_add] at hb; omega)
    rw [hr] at hr2
    injection hr2 with e1 e2
    subst e1
    subst e2
    exact .inr ⟨⟨rfl, rfl, rfl, by simp, fun k hk _ => heap_alloc_old w.drew _ hk⟩, fun k hk => by simp [Value.ownBlock] at hk; omega⟩
  · by_cases hroom : n + 1 ≤ cap
    · have hr2 := run_append_room (P := P) w t ty e i ht hi g n cap cur hgg a 1 c news news' hnews h1 hroom (by rw [hsize, hl, hcs]; omega)
      rw [hr] at hr2
      injection hr2 with e1 e2
      exact .inl ⟨g, cap, rfl, e1⟩
    · have holds : ∀ j u, xs[j]? = some u → w.cell? ((⟨g, 0, none⟩ : Addr).add j) = some u := hown.cells (g := g) rfl
      have hr2 := run_append_grow (P := P) w t ty e i z ht hi hz ⟨g, 0, none⟩ n cap xs (by rw [hsize]; exact hown.1) holds a 1 c news news' hnews (by omega) (by omega) (growslice_fits (by omega) hbytes)
      rw [hr] at hr2
      injection hr2 with e1 e2
      subst e1
      subst e2
      exact .inr ⟨⟨rfl, rfl, rfl, by simp, fun k hk _ => heap_alloc_old w.drew _ hk⟩, fun k hk => by simp [Value.ownBlock] at hk; omega⟩
structure Fork {α : Type} (enc : α → Value) (h1 : ∀ x : α, (enc x).oneCell' = true) (e base : Nat) (ok : Nat → Prop) (w1 : World) (v v1 : Value) (xs ys : List α) : Prop where
  typed : ∀ k, v.ownBlock = some k → ∃ cells, w1.heap[k]? = some (.cells cells e (0, 0))
  lt : ∀ k, v.ownBlock = some k → k < w1.heap.size
  back : ∀ (w2 : World) (ok1 : Nat → Prop), (Kd.scalar enc h1).R e w2 base ok1 v1 ys → (∀ k, v.ownBlock = some k → some k ≠ v1.ownBlock → w2.heap[k]? = w1.heap[k]?) → (Kd.scalar enc h1).R e w2 base ok v xs
section
variable {α : Type} {P : Program} {ops : Array Oper} {o : Oper} {a : Act} {Q : Exit → Act → World → Prop} {Kc : Act → World → Prop}
theorem R_fork_step (enc : α → Value) {h1 : ∀ x : α, (enc x).oneCell' = true} {w0 W : World} (base : Nat) (hw : Region.wanted o (yielded ops a.tmps) = true) (s x : Operand) (t e : TypeId) (z : Value) (bytes : Nat)
    (ho : o.op = .call { callee := .builtin .append, args := #[s, x], argTypes := #[t, t] })
    (ht : P.underlying t = some (.slice e)) (hinfo : (P.info? e).map (fun i => (i.zero, i.size, i.bytes)) = some (some z, 1, bytes)) (hz : z.cells.size = 1) (_hs0 : 0 < 1) (hb0 : 0 < bytes)
    (v : Value) (xs : List α) (p : α) (cs : List Value) (ok okp : Nat → Prop) (hs : a.eval s = v) (hx : a.eval x = .slice (some ⟨W.heap.size, 0, none⟩) 1 1) (hp : cs = [enc p]) (_hokp : ∀ k, okp k → ok k ∧ some k ≠ v.ownBlock)
    (hfresh : ∀ k, W.heap.size ≤ k → ok k)
    (HO : (Kd.scalar enc h1).R e W base ok v xs) (HB : Below base w0 W) (hbase : base ≤ W.heap.size) (hl : (xs.length + 1) * bytes ≤ 140737488355328)
    (h : ∀ v1 w1, (Kd.scalar enc h1).R e w1 base ok v1 (xs ++ [p]) → Fork enc h1 e base ok w1 v v1 xs (xs ++ [p]) → Below base w0 w1 → W.grownBy w1 v.ownBlock → (v1.ownBlock = v.ownBlock ∨ ∃ b, v1.ownBlock = some b ∧ W.heap.size ≤ b) → Kc (a.put o.dst v1) w1) :
    if Region.wanted o (yielded ops a.tmps) = true then Oper.wp P o a (W.alloc (.cells cs.toArray e)) Kc Q else Kc (a.put o.dst undef) (W.alloc (.cells cs.toArray e)) := by
  subst hp
  have hO := Kd.own_of_R HO
  have hok := HO.1
  obtain ⟨i0, hi, hzz⟩ := Option.map_eq_some_iff.1 hinfo
  simp only [Prod.mk.injEq] at hzz
  obtain ⟨hz0, hz1, hz2⟩ := hzz
  have hlen : xs.length + 1 ≤ 140737488355328 := Nat.le_trans (Nat.le_mul_of_pos_right _ hb0) hl
  rw [if_pos hw]
  obtain ⟨v1, w1, hr, hown, hg, hat, hf⟩ := run_append_fork (P := P) (W.alloc (.cells [enc p].toArray e)) base t o.type e i0 z bytes ht hi hz0 hz1 hz2 hz v xs.length (encs enc xs) (hO.alloc _) ⟨W.heap.size, 0, none⟩ 1 [enc p] rfl
    (by simpa using World.news_of_block (cs := [enc p].toArray) (t := e) (fr := (0, 0)) (heap_alloc_new W (.cells [enc p].toArray e))) (by simpa using h1 p) (by simp only [maxLen]; omega) hl (by simp; omega)
  unfold Oper.wp execOp
  simp only [ho, resolve, invoke, builtin, Sem.run_bind, Sem.run_pure, Result.andThen_ok, List.map_toArray, List.map_cons, List.map_nil, hs, hx, hr]
  have hat' : v1.ownBlock = v.ownBlock ∨ ∃ b, v1.ownBlock = some b ∧ W.heap.size ≤ b := by
    rcases hat with hat | hat
    · exact .inl hat
    · exact .inr ⟨_, hat, by simp⟩
  have hg' := World.grownBy.trans (World.grownBy_alloc W (.cells [enc p].toArray e) v.ownBlock) hg
  have hown' : w1.ownsRow base e 1 v1 (xs ++ [p]).length (encs enc (xs ++ [p])) := by
    have : encs enc (xs ++ [p]) = encs enc xs ++ [enc p] := by simp [encs]
    rw [this, List.length_append, List.length_singleton]
    exact hown
  refine h v1 w1 (Kd.R_of_own hown' (fun k hk => ?_)) ⟨fun k hk => ?_, fun k hk => ?_, fun w2 ok1 h2 hfr => ?_⟩ ((HB.alloc hbase _).grown hg (by simp; omega) (own_base hO)) hg' hat'
  · rcases hat' with hat | ⟨b, hb, hle⟩
    · exact hok k (hat ▸ hk)
    · rw [hb] at hk
      injection hk with hk
      exact hfresh k (by omega)
  · rcases hf with ⟨g, cap, e1, e2⟩ | ⟨hgn, _⟩
    · refine own_typed hown' k ?_
      rw [e2]
      rw [e1] at hk
      exact hk
    · obtain ⟨cells, hc⟩ := own_typed (hO.alloc (.cells [enc p].toArray e)) k hk
      exact ⟨cells, (hgn.block k (own_lt (hO.alloc _) k hk) (by simp)).trans hc⟩
  · exact Nat.lt_of_lt_of_le (own_lt hO k hk) hg'.size
  · have ho2 := Kd.own_of_R h2
    refine Kd.R_of_own ?_ hok
    have hlx : (encs enc xs).length = xs.length := encs_length _
    rcases hf with ⟨g, cap, e1, e2⟩ | ⟨hgn, hfr1⟩
    · refine ⟨by rw [hlx, Nat.mul_one], .inr ?_⟩
      rcases ho2.2 with ⟨hv, _⟩ | ⟨g2, cap2, cur, hv, hbg, hgg, hnc, hcm, hcs, htake⟩
      · rw [e2] at hv
        cases hv
      · rw [e2] at hv
        injection hv with hv1 hv2 hv3
        injection hv1 with hv1
        injection hv1 with hv1
        subst hv1
        subst hv3
        refine ⟨g, cap, cur, e1, hbg, hgg, by rw [List.length_append, List.length_singleton] at hnc; omega, hcm, hcs, ?_⟩
        have h4 := congrArg (List.take (xs.length * 1)) htake
        rw [List.take_take, Nat.min_eq_left (by rw [List.length_append, List.length_singleton]; omega)] at h4
        rw [h4]
        have : encs enc (xs ++ [p]) = encs enc xs ++ [enc p] := by simp [encs]
        rw [this, Nat.mul_one, ← hlx]
        exact List.take_left
    · have hb2 : ∀ k, v.ownBlock = some k → w2.heap[k]? = W.heap[k]? := by
        intro k hk
        have hkl := own_lt hO k hk
        rw [hfr k hk (fun e_ => by have := hfr1 k e_.symm; simp at this; omega), hgn.block k (by simp; omega) (by simp), heap_alloc_old W _ hkl]
      exact own_move hO hb2
end
section
variable {α : Type} {P : Program} {ops : Array Oper} {rest : List Oper} {o : Oper} {a : Act} {Q : Exit → Act → World → Prop} {Kc : Act → World → Prop}
theorem R_nothing (d : Kd α) {W : World} {base e m : Nat} {cs : Array Value} {ok : Nat → Prop} (hfresh : ok W.heap.size) (hbase : base ≤ W.heap.size) (hm : m ≤ maxLen) (hs : cs.size = m * d.sz) : d.R e (W.alloc (.cells cs e)) base ok (.slice (some ⟨W.heap.size, 0, none⟩) 0 m) [] := by
  refine ⟨fun k hk => ?_, [], World.ownsRow_made W cs m hbase hm hs, Reps.none _ _⟩
  have : W.heap.size = k := by simpa [Value.ownBlock] using hk
  subst this
  exact hfresh
theorem R_make0_step (d : Kd α) {w0 W : World} (base e : Nat) (hw : Region.wanted o (yielded ops a.tmps) = true) {N : Tmp} (_hd : o.dst = some N) (t : TypeId) (x y : Operand) (ho : o.op = .makeSlice t x y) (n : Int) (hx : a.eval x = .int .i64 0) (hy : a.eval y = .int .i64 n)
    (ht : P.underlying t = some (.slice e)) (z : Value) (bytes : Nat) (hinfo : (P.info? e).map (fun i => (i.zero, i.size, i.bytes)) = some (some z, d.sz, bytes)) (_hz : z.cells.size = d.sz) (_hs0 : 0 < d.sz) (hb0 : 0 < bytes)
    (z0 : α) {ok okp : Nat → Prop} (_hzero : d.M W base okp z0 z.cells.toList) (_hok : ∀ k, okp k → ok k) (hfresh : ok W.heap.size) (h0 : 0 ≤ n) (hl : n.toNat * bytes ≤ 281474976710656) (HB : Below base w0 W) (hbase : base ≤ W.heap.size)
    (h : ∀ v1 w1, d.R e w1 base ok v1 (List.replicate 0 z0) → Below base w0 w1 → W.grownBy w1 none → (∃ b, v1.ownBlock = some b ∧ W.heap.size ≤ b) → Kc (a.put o.dst v1) w1) : if Region.wanted o (yielded ops a.tmps) = true then Oper.wp P o a W Kc Q else Kc (a.put o.dst undef) W := by
  obtain ⟨m, rfl⟩ := Int.eq_ofNat_of_zero_le h0
  simp only [Int.toNat_natCast] at hl
  obtain ⟨i0, hi, hzz⟩ := Option.map_eq_some_iff.1 hinfo
  simp only [Prod.mk.injEq] at hzz
  obtain ⟨hz0, hz1, hz2⟩ := hzz
  have hm : m ≤ 281474976710656 := Nat.le_trans (Nat.le_mul_of_pos_right _ hb0) hl
  have hr := run_make (P := P) W t e i0 z ht hi hz0 .i64 .i64 0 (m : Int) (by omega) (by omega)
    (by
      have h3 : ((i0.bytes * m : Nat) : Int) ≤ 281474976710656 := by rw [hz2, Nat.mul_comm]; omega
      rwa [Int.natCast_mul] at h3) (by omega)
  simp only [Int.toNat_natCast] at hr
  rw [hz1] at hr
  refine event_step hw (show (execOp a.eval o).run P W = .ok (.value (.slice (some ⟨W.heap.size, 0, none⟩) 0 m)) (W.alloc (.cells (madeCells z.cells (m * d.sz)) e)) from ?_) (h _ _ (R_nothing d hfresh hbase (by simp only [maxLen]; omega) (size_madeCells _ _)) (HB.alloc hbase _) (World.grownBy_alloc W _ none) ⟨W.heap.size, by simp [Value.ownBlock], Nat.le_refl _⟩)
  simp [execOp, ho, hx, hy, hr]
end
theorem kept_cell {w : World} {S : Nat → Prop} {a : Addr} (h : ∀ W_, Kept w W_ S → ∃ u, W_.cell? a = some u) (W : World) (hk : Kept w W S) : W.cell? a = w.cell? a := by
  obtain ⟨u0, h0⟩ := h w (Kept.refl w S)
  have hlt := World.block_lt_of_cell? w a h0
  have hS : ¬ S a.block := by
    intro hs
    obtain ⟨u, hu⟩ := h { w with heap := w.heap.set a.block (.cells #[] 0 (0, 0)) hlt } ⟨by simp, fun i hi hn => by
      have : a.block ≠ i := fun e => hn (e ▸ hs)
      simp [Array.getElem?_set, this]⟩
    simp [World.cell?] at hu
  have := hk.2 a.block hlt hS
  simp [World.cell?, this]
theorem inner_kept {w W : World} {S : Nat → Prop} {A : Option Addr} {ad : Addr} {m l c : Nat} {A1 : Option Addr} {F : World → Option Addr → Prop}
    (h : ∀ W_, Kept w W_ S → ∃ ad A0 c0, A = some ad ∧ W_.cell? (ad.add m) = some (.slice A0 l c0) ∧ l ≤ c0 ∧ F W_ A0) (hx : W.cell? (ad.add m) = some (.slice A1 l c)) (hA : A = some ad) (hk : Kept w W S) : ∀ W_, Kept w W_ S → F W_ A1 := by
  subst hA
  have hc : ∀ W_, Kept w W_ S → ∃ u, W_.cell? (ad.add m) = some u := by
    intro W_ hK
    obtain ⟨ad2, A0, c0, e, h1, _⟩ := h W_ hK
    injection e with e
    subst e
    exact ⟨_, h1⟩
  intro W_ hK
  obtain ⟨ad2, A0, c0, e, h1, _, h3⟩ := h W_ hK
  injection e with e
  subst e
  have e1 := kept_cell hc W hk
  have e2 := kept_cell hc W_ hK
  rw [h1, ← e1, hx] at e2
  injection e2 with e2
  injection e2 with e2
  rw [← e2]
  exact h3
end Go.Proofs.YtpjbmgoagehjkaaH
end
section
namespace Go.Proofs.YtpjbmgoagehjkaaH
open Go Go.RowKit Go.Proofs.YtpjbmgoagehjkaaW.PrintWords
section
theorem mapM_at {α β : Type} {f : α → Option β} : ∀ {l : List α} {ys : List β}, l.mapM f = some ys → ys.length = l.length ∧ ∀ (i : Nat) (x : α), l[i]? = some x → ∃ y, ys[i]? = some y ∧ f x = some y
  | [], ys, h => by
    simp at h
    subst h
    exact ⟨rfl, fun i x hx => by simp at hx⟩
  | a :: l, ys, h => by
    rw [List.mapM_cons] at h
    cases ha : f a with
    | none => rw [ha] at h; cases h
    | some b =>
      rw [ha] at h
      cases hl : l.mapM f with
      | none => rw [hl] at h; cases h
      | some bs =>
        rw [hl] at h
        have h' : some (b :: bs) = some ys := h
        injection h' with h'
        subst h'
        obtain ⟨e, r⟩ := mapM_at hl
        refine ⟨by simp [e], fun i x hx => ?_⟩
        cases i with
        | zero =>
          simp only [List.getElem?_cons_zero, Option.some.injEq] at hx
          subst hx
          exact ⟨b, rfl, ha⟩
        | succ i => simpa using r i x (by simpa using hx)
theorem all_append_l {a b : List Nat} (h : (a ++ b).all (· ≤ reachBytes) = true) : a.all (· ≤ reachBytes) = true ∧ b.all (· ≤ reachBytes) = true := by
  rw [List.all_append, Bool.and_eq_true] at h
  exact h
theorem all_weights {H : Type} {P : Program} {e : TypeId} : ∀ {ds : List (DataW H)} {i : Nat} {d : DataW H}, (DataW.weightsAll P e ds).all (· ≤ reachBytes) = true → ds[i]? = some d → (d.weights P e).all (· ≤ reachBytes) = true
  | [], i, d, _, h => by simp at h
  | d0 :: ds, i, d, hw, h => by
    unfold DataW.weightsAll at hw
    obtain ⟨h1, h2⟩ := all_append_l hw
    cases i with
    | zero =>
      simp only [List.getElem?_cons_zero, Option.some.injEq] at h
      subst h
      exact h1
    | succ i => exact all_weights h2 (by simpa using h)
theorem weights_cons {H : Type} {P : Program} {t : TypeId} {ts : List TypeId} {d : DataW H} {ds : List (DataW H)} (h : (DataW.weightsEach P (t :: ts) (d :: ds)).all (· ≤ reachBytes) = true) : (d.weights P t).all (· ≤ reachBytes) = true ∧ (DataW.weightsEach P ts ds).all (· ≤ reachBytes) = true := by
  unfold DataW.weightsEach at h
  exact all_append_l h
structure Opens (P : Program) {α : Type} (d : Kd α) (t : TypeId) (ok : α → Prop) : Prop where
  sz : P.cellsOf t = d.sz
  open_ : ∀ {H : Type} (enc : TypeId × Value → H) (w : World) (base fuel : Nat) (spare : Nat → Bool) (cs : List Value) (dt : DataW H) (ps : List MemPlace), DataW.trod enc P w base spare true fuel t cs = some (dt, ps) →
    (dt.weights P t).all (· ≤ reachBytes) = true → ∃ x : α, d.K w x cs ∧ ok x
variable {P : Program} {t e : TypeId}
theorem Opens.mono {α : Type} {d : Kd α} {ok ok' : α → Prop} (h : Opens P d t ok) (hk : ∀ x, ok x → ok' x) : Opens P d t ok' :=
  ⟨h.sz, fun enc w base fuel spare cs dt ps ht hw => by obtain ⟨x, h1, h2⟩ := h.open_ enc w base fuel spare cs dt ps ht hw; exact ⟨x, h1, hk x h2⟩⟩
theorem opens_int {k : IntKind} (hu : P.underlying t = some (.int k)) (hc : P.cellsOf t = 1) : Opens P (Kd.int k) t (fun x => (Lit.int k x).wf = true) where
  sz := hc
  open_ enc w base fuel spare cs dt ps h _ := by
    cases fuel with
    | zero => simp [DataW.trod] at h
    | succ n =>
      unfold DataW.trod at h
      rw [hu] at h
      split at h <;> simp_all
      rename_i k' n' _ _
      obtain ⟨⟨rfl, hwf⟩, _⟩ := h
      exact ⟨n', rfl, hwf⟩
theorem opens_bool (hu : P.underlying t = some .bool) (hc : P.cellsOf t = 1) : Opens P Kd.bool t (fun _ => True) where
  sz := hc
  open_ enc w base fuel spare cs dt ps h _ := by
    cases fuel with
    | zero => simp [DataW.trod] at h
    | succ n =>
      unfold DataW.trod at h
      rw [hu] at h
      rcases cs with _ | ⟨v, _ | ⟨_, _⟩⟩
      · cases h
      · cases v <;> first | (cases h; done) | exact ⟨_, rfl, trivial⟩
      · simp at h
theorem opens_slice {α : Type} {d : Kd α} {ok : α → Prop} {B : Nat} (hd : Opens P d e ok) (hu : P.underlying t = some (.slice e)) (hc : P.cellsOf t = 1) (hB : P.bytesOf e = B) : Opens P (Kd.slice e d) t (fun xs => xs.length * B ≤ 140737488351232 ∧ xs.length ≤ maxLen ∧ ∀ x ∈ xs, ok x) where
  sz := hc
  open_ {H} enc w base fuel spare cs dt ps h hw := by
    cases fuel with
    | zero => simp [DataW.trod] at h
    | succ n =>
      unfold DataW.trod at h
      rw [hu] at h
      rcases cs with _ | ⟨v, _ | ⟨_, _⟩⟩
      · cases h
      rotate_left
      · simp at h
      · cases v <;> first | (cases h; done) | skip
        rename_i a0 len cap
        cases a0 with
        | none =>
          cases len with
          | succ => simp at h
          | zero =>
            cases cap with
            | succ => simp at h
            | zero => exact ⟨[], ⟨none, 0, rfl, Nat.le_refl _, rfl, by simp, fun h => absurd h (Nat.lt_irrefl 0)⟩, by simp, by simp, by simp⟩
        | some a =>
        simp only at h
        split at h
        · rename_i hb
          obtain ⟨hb1, hb2, hb3⟩ := hb
          obtain ⟨elems, hel, h⟩ := Option.bind_eq_some_iff.1 h
          obtain ⟨rest, hre, h⟩ := Option.map_eq_some_iff.1 h
          simp only [Prod.mk.injEq] at h
          obtain ⟨hdt, _⟩ := h
          subst hdt
          obtain ⟨e1, e2⟩ := mapM_at hel
          rw [List.length_range] at e1
          simp only [DataW.weights, hu, List.all_cons, Bool.and_eq_true, decide_eq_true_eq, List.length_map, hB] at hw
          obtain ⟨hw1, hw2⟩ := hw
          obtain ⟨hw2, _⟩ := all_append_l hw2
          have each : ∀ i : Nat, i < len → ∃ x : α, ok x ∧ ∃ c : List Value, c.length = d.sz ∧ d.K w x c ∧ ∀ j u, c[j]? = some u → w.cell? (a.add (i * d.sz + j)) = some u := by
            intro i hi
            obtain ⟨y, hy, hf⟩ := e2 i i (by simp [hi])
            obtain ⟨c, hcell, htr⟩ := Option.bind_eq_some_iff.1 hf
            obtain ⟨x, hx1, hx2⟩ := hd.open_ enc w base n spare c y.1 y.2 htr (all_weights (i := i) hw2 (by simp [hy]))
            have hK := d.K_len hx1
            refine ⟨x, hx2, c, hK, hx1, fun j u hj => ?_⟩
            unfold World.cells? at hcell
            split at hcell
            · obtain ⟨_, e4⟩ := mapM_at hcell
              have hjl : j < c.length := (List.getElem?_eq_some_iff.1 hj).1
              obtain ⟨u', hu', hcu⟩ := e4 j j (by rw [hd.sz, List.getElem?_range (by omega)])
              rw [hj] at hu'
              injection hu' with hu'
              subst hu'
              have ha : (a.add (i * d.sz)).add j = a.add (i * d.sz + j) := by
                generalize i * d.sz = m
                unfold Addr.add
                by_cases h1 : m = 0 <;> by_cases h2 : j = 0 <;> simp [h1, h2, Nat.add_assoc]
              rw [hd.sz, ha] at hcu
              exact hcu
            · cases hcell
          have hlist : ∀ m : Nat, m ≤ len → ∃ xs : List α, xs.length = m ∧ (∀ x ∈ xs, ok x) ∧ ∀ j p, xs[j]? = some p → ∃ c : List Value, c.length = d.sz ∧ d.K w p c ∧ ∀ i u, c[i]? = some u → w.cell? (a.add (j * d.sz + i)) = some u := by
            intro m
            induction m with
            | zero => exact fun _ => ⟨[], rfl, by simp, fun j p h => by simp at h⟩
            | succ m ih =>
              intro hm
              obtain ⟨xs, h1, h2, h3⟩ := ih (by omega)
              obtain ⟨x, hx, c, hc1, hc2, hc3⟩ := each m (by omega)
              refine ⟨xs ++ [x], by simp [h1], fun y hy => ?_, fun j p hj => ?_⟩
              · rcases List.mem_append.1 hy with hy | hy
                · exact h2 y hy
                · rw [List.mem_singleton.1 hy]; exact hx
              · rcases Nat.lt_or_ge j xs.length with hlt | hge
                · rw [List.getElem?_append_left hlt] at hj
                  exact h3 j p hj
                · have hjm : j = m := by
                    have := (List.getElem?_eq_some_iff.1 hj).1
                    simp at this
                    omega
                  subst hjm
                  have hp : x = p := by simpa [h1] using hj
                  subst hp
                  exact ⟨c, hc1, hc2, hc3⟩
          obtain ⟨xs, h1, h2, h3⟩ := hlist len (Nat.le_refl _)
          subst h1
          refine ⟨xs, ⟨some a, cap, rfl, hb2, rfl, by simp only [maxLen] at hb3; omega, fun _ => ⟨a, rfl, h3⟩⟩, ?_, by omega, h2⟩
          rw [e1] at hw1
          simp only [reachBytes] at hw1
          exact Nat.le_trans (Nat.mul_le_mul_right _ (by omega)) hw1
        · cases h
structure OpensF (P : Program) {α : Type} (d : Kd α) (fs : List Field) (o : Nat) (ok : α → Prop) : Prop where
  run : ∀ {H : Type} (enc : TypeId × Value → H) (w : World) (base fuel : Nat) (spare : Nat → Bool) (cs : List Value) (xs : List (DataW H × List MemPlace)), cs.length = o + d.sz →
    fs.mapM (fun f => DataW.trod enc P w base spare true fuel f.type ((cs.drop f.offset).take (P.cellsOf f.type))) = some xs →
    (DataW.weightsEach P (fs.map (·.type)) (xs.map (·.1))).all (· ≤ reachBytes) = true → ∃ x : α, d.K w x (cs.drop o) ∧ ok x
theorem opensF_one {α : Type} {d : Kd α} {f : Field} {o : Nat} {ok : α → Prop} (h : Opens P d f.type ok) (ho : f.offset = o) : OpensF P d [f] o ok := by
  refine ⟨fun {H} enc w base fuel spare cs xs hl hm hw => ?_⟩
  obtain ⟨e1, e2⟩ := mapM_at hm
  obtain ⟨y, hy, hf⟩ := e2 0 f rfl
  rcases xs with _ | ⟨y', xs⟩
  · simp at hy
  simp only [List.getElem?_cons_zero, Option.some.injEq] at hy
  subst hy
  simp only [List.map_cons, DataW.weightsEach] at hw
  rw [h.sz, ho, List.take_of_length_le (by rw [List.length_drop]; omega)] at hf
  exact h.open_ enc w base fuel spare _ _ _ hf (all_append_l hw).1
theorem opensF_cons {α β : Type} {d : Kd α} {d2 : Kd β} {f : Field} {fs : List Field} {o : Nat} {ok : α → Prop} {ok2 : β → Prop} (h : Opens P d f.type ok) (ho : f.offset = o) (h2 : OpensF P d2 fs (o + d.sz) ok2) : OpensF P (Kd.pair d d2) (f :: fs) o (fun x => ok x.1 ∧ ok2 x.2) := by
  refine ⟨fun {H} enc w base fuel spare cs xs hl hm hw => ?_⟩
  have hl' : cs.length = o + (d.sz + d2.sz) := hl
  rw [List.mapM_cons] at hm
  obtain ⟨y, hy, hm⟩ := Option.bind_eq_some_iff.1 hm
  obtain ⟨ys, hys, hm⟩ := Option.bind_eq_some_iff.1 hm
  have hm' : some (y :: ys) = some xs := hm
  injection hm' with hm'
  subst hm'
  simp only [List.map_cons, DataW.weightsEach] at hw
  obtain ⟨w1, w2⟩ := all_append_l hw
  rw [h.sz, ho] at hy
  obtain ⟨x, hx, hox⟩ := h.open_ enc w base fuel spare _ y.1 y.2 hy w1
  obtain ⟨z, hz, hoz⟩ := h2.run enc w base fuel spare cs ys (by omega) hys w2
  refine ⟨(x, z), ⟨(cs.drop o).take d.sz, cs.drop (o + d.sz), ?_, hx, hz⟩, hox, hoz⟩
  rw [← List.drop_drop, List.take_append_drop]
theorem opens_struct {α β : Type} {d : Kd α} {fs : Array Field} {ok : α → Prop} {f : β → α} (g : α → β) (hfg : ∀ y, f (g y) = y) (hu : P.underlying t = some (.struct fs)) (hc : P.cellsOf t = d.sz) (h : OpensF P d fs.toList 0 ok) : Opens P (Kd.iso d f) t (fun x => ok (f x)) where
  sz := hc
  open_ {H} enc w base fuel spare cs dt ps h1 hw := by
    cases fuel with
    | zero => simp [DataW.trod] at h1
    | succ n =>
      unfold DataW.trod at h1
      rw [hu] at h1
      have h2 : (if cs.length = P.cellsOf t then (fs.toList.mapM fun f => DataW.trod enc P w base spare true n f.type ((cs.drop f.offset).take (P.cellsOf f.type))).map fun xs => (DataW.agg (xs.map (·.1)), xs.flatMap (·.2)) else none) = some (dt, ps) := by
        rcases cs with _ | ⟨v, _ | ⟨v2, cs⟩⟩
        · exact h1
        · cases v <;> exact h1
        · exact h1
      split at h2
      · rename_i hl
        obtain ⟨xs, hxs, h2⟩ := Option.map_eq_some_iff.1 h2
        simp only [Prod.mk.injEq] at h2
        obtain ⟨hdt, _⟩ := h2
        subst hdt
        simp only [DataW.weights, hu] at hw
        obtain ⟨x, hx, hox⟩ := h.run enc w base n spare cs xs (by omega) hxs hw
        refine ⟨g x, ?_, ?_⟩
        · show d.K w (f (g x)) cs
          rw [hfg]
          exact hx
        · rw [hfg]
          exact hox
      · cases h2
end
end Go.Proofs.YtpjbmgoagehjkaaH
end
section
namespace Go.Proofs.YtpjbmgoagehjkaaW.PrintWords
open Go Go.RowKit
class Up (w w' : World) : Prop where
  h : Below w.heap.size w w'
instance (w : World) : Up w w := ⟨Below.refl _ _⟩
instance (w w' : World) (o : Obj) [u : Up w w'] : Up w (w'.alloc o) := ⟨below_alloc u.h o⟩
instance (w w' : World) [u : Up w w'] : Up w w'.drew := ⟨below_drew1 u.h⟩
instance (w w' : World) (n : Nat) [u : Up w w'] : Up w (w'.drewN n) := ⟨pw_below_drewN u.h n⟩
theorem uR {α : Type} {d : Kd α} {e : TypeId} {w w' : World} {base : Nat} {ok : Nat → Prop} {v : Value} {xs : List α} [u : Up w w'] (h : d.R e w base ok v xs) : d.R e w' base ok v xs := Kd.R_below h u.h
theorem bA {w W : World} (h : Below w.heap.size w W) (o : Obj) : Below w.heap.size w (W.alloc o) := below_alloc h o
theorem bN {B : Nat} {w W : World} (h : Below B w W) (n : Nat) : Below B w (W.drewN n) := pw_below_drewN h n
theorem bD {base : Nat} {w W : World} (h : Below base w W) : Below base w W.drew := below_drew1 h
theorem bS {w W : World} {g j : Nat} {v : Value} (h : Below w.heap.size w W) (hg : Aside0 (w.heap.size ≤ g)) : Below w.heap.size w (W.setCell ⟨g, j, none⟩ v) := below_set h hg.out
theorem sA {α : Type} {l : List α} {i : Nat} {a : α} : l.toArray.setIfInBounds i a = (l.set i a).toArray := List.setIfInBounds_toArray _ _ _
theorem sB {α : Type} {x : α} {xs : List α} {a : α} : (x :: xs).set 0 a = a :: xs := rfl
theorem sC {α : Type} {x : α} {xs : List α} {n : Nat} {a : α} : (x :: xs).set (n + 1) a = x :: xs.set n a := rfl
theorem nl1 {w : World} {p : Addr} {v : Value} {g : Nat} (h : w.cell? p = some v) (hg : w.heap.size ≤ g) : p.block ≠ g := Nat.ne_of_lt (Nat.lt_of_lt_of_le (World.block_lt_of_cell? _ _ h) hg)
theorem nl2 {w : World} {a : Addr} {n : Nat} {v : Value} {g : Nat} (h : w.cell? (a.add n) = some v) (hg : w.heap.size ≤ g) : a.block ≠ g := by
  have := nl1 h hg
  rwa [add_block] at this
theorem nl3 {w : World} {a : Addr} {n off : Nat} {v : Value} {g : Nat} (h : w.cell? ⟨(a.add n).block, off, none⟩ = some v) (hg : w.heap.size ≤ g) : a.block ≠ g := by
  have : (a.add n).block ≠ g := nl1 (p := ⟨(a.add n).block, off, none⟩) h hg
  rwa [add_block] at this
theorem kN {w : World} {g : Nat} {o : Obj} {n : Nat} (h : w.heap[g]? = some o) : (w.drewN n).heap[g]? = some o := blk_drewN h n
theorem kD {w : World} {g : Nat} {o : Obj} (h : w.heap[g]? = some o) : w.drew.heap[g]? = some o := blk_drew h
theorem kA {w : World} {g : Nat} {o o' : Obj} (h : w.heap[g]? = some o) : (w.alloc o').heap[g]? = some o := blk_alloc h o'
theorem aM {p : Prop} (h : p) : Aside0 p := ⟨h⟩
theorem uB {w w' : World} {g : Nat} {o : Obj} [u : Up w w'] (h : w.heap[g]? = some o) : w'.heap[g]? = some o := blk_below h u.h

end Go.Proofs.YtpjbmgoagehjkaaW.PrintWords
end
