/- Words for maps of the call's own: what a map block holds, as an association list. -/
import Derived.MapKept
import Derived.OwnWalk
import Derived.Maps.OwnSet
import Derived.Below
import Derived.Deep.Draws
namespace Go.Proofs.YtpjbmgoagehjkaaH
open Go Go.RowKit

section
variable {K V : Type}
def mget [DecidableEq K] (m : List (K × V)) (k : K) : Option V := (m.find? (fun p => decide (p.1 = k))).map (·.2)
def mput [DecidableEq K] (m : List (K × V)) (k : K) (v : V) : List (K × V) :=
  if (mget m k).isSome then m.map (fun p => if p.1 = k then (k, v) else p) else m ++ [(k, v)]
theorem mget_nil [DecidableEq K] (k : K) : mget ([] : List (K × V)) k = none := rfl
theorem mget_cons [DecidableEq K] (p : K × V) (m : List (K × V)) (k : K) : mget (p :: m) k = if p.1 = k then some p.2 else mget m k := by
  unfold mget
  by_cases h : p.1 = k <;> simp [h]
theorem mget_append [DecidableEq K] (m m' : List (K × V)) (k : K) : mget (m ++ m') k = (mget m k).or (mget m' k) := by
  induction m with
  | nil => simp [mget_nil]
  | cons p m ih =>
    rw [List.cons_append, mget_cons, mget_cons, ih]
    by_cases h : p.1 = k <;> simp [h]
theorem mget_put [DecidableEq K] (m : List (K × V)) (k : K) (v : V) (k' : K) : mget (mput m k v) k' = if k = k' then some v else mget m k' := by
  unfold mput
  split
  · rename_i hs
    induction m with
    | nil => simp [mget_nil] at hs
    | cons p m ih =>
      rw [List.map_cons, mget_cons, mget_cons]
      by_cases h : p.1 = k
      · simp only [h, if_true]
        by_cases h' : k = k'
        · simp [h']
        · simp only [h', if_false]
          by_cases hm : (mget m k).isSome
          · rw [ih hm, if_neg h']
          · have : m.map (fun p => if p.1 = k then (k, v) else p) = m := by
              rw [mget_cons, if_pos h] at hs
              clear ih hs
              induction m with
              | nil => rfl
              | cons q m ih2 =>
                rw [mget_cons] at hm
                by_cases hq : q.1 = k
                · simp [hq] at hm
                · rw [List.map_cons, if_neg hq, ih2 (by simpa [hq] using hm)]
            rw [this]
      · rw [mget_cons, if_neg h] at hs
        rw [if_neg h]
        by_cases h' : p.1 = k'
        · rw [if_pos h', if_pos h', if_neg (by rintro rfl; exact h h')]
        · rw [if_neg h', if_neg h', ih hs]
  · rename_i hs
    rw [mget_append, mget_cons, mget_nil]
    by_cases h : k = k'
    · subst h
      simp only [Bool.not_eq_true, Option.isSome_eq_false_iff, Option.isNone_iff_eq_none] at hs
      simp [hs]
    · simp [h]
theorem mput_length [DecidableEq K] (m : List (K × V)) (k : K) (v : V) : (mput m k v).length = if (mget m k).isSome then m.length else m.length + 1 := by
  unfold mput
  split <;> simp

/-- What the laws on a map's block need of the key's type: how a key is written as a value. -/
structure KeyOk (P : Program) (kt : TypeId) (ek : K → Value) : Prop where
  inj : ∀ {x y : K}, ek x = ek y → x = y
  check : ∀ (w : World) (em : Bool) (x : K), (Instr.checkKey em 10000 kt (ek x)).run P w = .ok () w
  find : ∀ (w : World) (x : K) (es : List MapEntry), (∀ e ∈ es, ∃ y : K, e.key = ek y) →
    ((Instr.findKey kt (ek x) es).run P w = .ok none w ∧ ∀ e ∈ es, e.key ≠ ek x) ∨ ∃ j e, (Instr.findKey kt (ek x) es).run P w = .ok (some (j, e.val)) w ∧ es[j]? = some e ∧ e.key = ek x
  stays : ∀ (w : World) (x : K), (Instr.keyThatStays (ek x) (ek x)).run P w = .ok (ek x) w

/-- Keys of a plain type. -/
theorem keyOk_plain {P : Program} {kt : TypeId} {d : TypeDesc} {ek : K → Value} (hd : P.underlying kt = some d) (hk : ∀ x, MapKept.IsKey d (ek x)) (hi : ∀ {x y : K}, ek x = ek y → x = y) : KeyOk P kt ek where
  inj := hi
  check w em x := MapKept.run_checkKey hd (hk x) em 9999
  find w x es hes := by
    rcases MapKept.findNow_spec (hk x) es 0 (fun e he => by obtain ⟨y, hy⟩ := hes e he; rw [hy]; exact hk y) with ⟨h1, h2⟩ | ⟨j, e, h1, h2, h3⟩
    · exact .inl ⟨MapKept.run_findKey hd h1, h2⟩
    · exact .inr ⟨j, e, by rw [MapKept.run_findKey hd h1, Nat.zero_add], h2, h3⟩
  stays w x := MapKept.run_keyThatStays (hk x)
theorem keyOk_int {P : Program} {kt : TypeId} {q : IntKind} (hd : P.underlying kt = some (.int q)) : KeyOk (K := Int) P kt (Value.int q) :=
  keyOk_plain hd (fun _ => rfl) (fun h => by injection h)
theorem keyOk_string {P : Program} {kt : TypeId} (hd : P.underlying kt = some .string) : KeyOk (K := ByteArray) P kt Value.string :=
  keyOk_plain hd (fun _ => trivial) (fun h => by injection h)

/-- Block b of w is a map of the call's own that holds m. -/
def OwnM (ek : K → Value) (ev : V → Value) (w : World) (base b : Nat) (m : List (K × V)) : Prop :=
  base ≤ b ∧ ∃ es clock, w.heap[b]? = some (.map es clock) ∧ es.toList.map (fun e => (e.key, e.val)) = m.map (fun p => (ek p.1, ev p.2))

variable {ek : K → Value} {ev : V → Value} {w w1 : World} {base b : Nat} {m : List (K × V)} {P : Program} {kt et t : TypeId}
theorem OwnM.lt (h : OwnM ek ev w base b m) : b < w.heap.size := by
  obtain ⟨_, es, clock, hb, _⟩ := h
  exact (Array.getElem?_eq_some_iff.1 hb).1
theorem OwnM.keep (h : OwnM ek ev w base b m) (hk : w1.heap[b]? = w.heap[b]?) : OwnM ek ev w1 base b m := by
  obtain ⟨h0, es, clock, hb, h1⟩ := h
  exact ⟨h0, es, clock, hk.trans hb, h1⟩
theorem OwnM.below (h : OwnM ek ev w base b m) (hb : Below w.heap.size w w1) : OwnM ek ev w1 base b m := h.keep (hb.block b h.lt)
theorem OwnM.alloc (h : OwnM ek ev w base b m) (o : Obj) : OwnM ek ev (w.alloc o) base b m := h.keep ((MapKept.heap_alloc w o).2 b h.lt)
theorem OwnM.drewN (h : OwnM ek ev w base b m) (n : Nat) : OwnM ek ev (w.drewN n) base b m := h
theorem OwnM.drew (h : OwnM ek ev w base b m) : OwnM ek ev w.drew base b m := h
/-- A store to a cell of another block. -/
theorem OwnM.far (h : OwnM ek ev w base b m) {p : Addr} {cs : Array Value} {e : TypeId} {fr : Nat × Nat} (hp : w.heap[p.block]? = some (.cells cs e fr)) (u : Value) : OwnM ek ev (w.setCell p u) base b m := by
  refine h.keep (Below.heap_setCell w p u b ?_)
  intro he
  obtain ⟨_, es, clock, hb, _⟩ := h
  rw [he, hp] at hb
  cases hb
/-- Whatever writes one block of cells alone. -/
theorem OwnM.grown (h : OwnM ek ev w base b m) {row : Option Nat} (hg : w.grownBy w1 row) (hr : ∀ k, row = some k → ∃ cs e fr, w.heap[k]? = some (.cells cs e fr)) : OwnM ek ev w1 base b m := by
  refine h.keep (hg.block b h.lt ?_)
  intro he
  obtain ⟨cs, e, fr, hc⟩ := hr b he.symm
  obtain ⟨_, es, clock, hb, _⟩ := h
  rw [hc] at hb
  cases hb
theorem OwnM.made (w : World) (hb : base ≤ w.heap.size) : OwnM ek ev (w.alloc (.map #[] 0)) base w.heap.size ([] : List (K × V)) :=
  ⟨hb, #[], 0, (MapKept.heap_alloc w _).1, rfl⟩

theorem entries_keys {es : List MapEntry} {m : List (K × V)} (h : es.map (fun e => (e.key, e.val)) = m.map (fun p => (ek p.1, ev p.2))) : ∀ e ∈ es, ∃ y : K, e.key = ek y := by
  intro e he
  have : (e.key, e.val) ∈ m.map (fun p => (ek p.1, ev p.2)) := by rw [← h]; exact List.mem_map.2 ⟨e, he, rfl⟩
  obtain ⟨p, _, hp⟩ := List.mem_map.1 this
  exact ⟨p.1, (congrArg Prod.fst hp).symm⟩

theorem find_get [DecidableEq K] (K0 : KeyOk P kt ek) (w : World) (x : K) : ∀ (es : List MapEntry) (m : List (K × V)), es.map (fun e => (e.key, e.val)) = m.map (fun p => (ek p.1, ev p.2)) →
    (∀ e ∈ es, e.key ≠ ek x) → mget m x = none
  | [], [], _, _ => rfl
  | [], _ :: _, h, _ => by simp at h
  | _ :: _, [], h, _ => by simp at h
  | e :: es, p :: m, h, hn => by
    simp only [List.map_cons, List.cons.injEq, Prod.mk.injEq] at h
    rw [mget_cons, if_neg (fun hp => hn e (by simp) (by rw [h.1.1, hp])), find_get K0 w x es m h.2 (fun e he => hn e (by simp [he]))]
theorem find_get' [DecidableEq K] (K0 : KeyOk P kt ek) (x : K) : ∀ (es : List MapEntry) (m : List (K × V)) (j : Nat) (e : MapEntry), es.map (fun e => (e.key, e.val)) = m.map (fun p => (ek p.1, ev p.2)) →
    es[j]? = some e → e.key = ek x → (mget m x).isSome = true
  | [], _, _, _, _, h, _ => by simp at h
  | _ :: _, [], _, _, h, _, _ => by simp at h
  | e0 :: es, p :: m, j, e, h, hj, hk => by
    simp only [List.map_cons, List.cons.injEq, Prod.mk.injEq] at h
    rw [mget_cons]
    split
    · rfl
    · rename_i hne
      cases j with
      | zero =>
        simp only [List.getElem?_cons_zero, Option.some.injEq] at hj
        subst hj
        exact absurd (K0.inj (h.1.1.symm.trans hk)) hne
      | succ j => exact find_get' K0 x es m j e h.2 (by simpa using hj) hk

/-- Keys stand once. -/
def Once (m : List (K × V)) : Prop := m.Pairwise (fun p q => p.1 ≠ q.1)
theorem once_get [DecidableEq K] {m : List (K × V)} (h : Once m) {j : Nat} {p : K × V} (hj : m[j]? = some p) : mget m p.1 = some p.2 := by
  induction m generalizing j with
  | nil => simp at hj
  | cons q m ih =>
    rw [mget_cons]
    cases j with
    | zero => simp only [List.getElem?_cons_zero, Option.some.injEq] at hj; simp [hj]
    | succ j =>
      have hj' : m[j]? = some p := by simpa using hj
      rw [if_neg ((List.pairwise_cons.1 h).1 p (List.mem_of_getElem? hj')), ih (List.pairwise_cons.1 h).2 hj']
theorem mput_keys [DecidableEq K] (m : List (K × V)) (k : K) (v : V) : (mput m k v).map (·.1) = if (mget m k).isSome then m.map (·.1) else m.map (·.1) ++ [k] := by
  unfold mput
  split
  · rw [List.map_map]
    refine List.map_congr_left (fun p _ => ?_)
    simp only [Function.comp]
    split
    · rename_i h; exact h.symm
    · rfl
  · simp
theorem mget_isSome [DecidableEq K] (m : List (K × V)) (k : K) : (mget m k).isSome = true ↔ k ∈ m.map (·.1) := by
  induction m with
  | nil => simp [mget_nil]
  | cons p m ih =>
    rw [mget_cons]
    by_cases h : p.1 = k
    · simp [h]
    · rw [if_neg h, ih, List.map_cons, List.mem_cons]
      exact ⟨.inr, fun h' => h'.resolve_left (fun e => h e.symm)⟩
theorem once_iff (m : List (K × V)) : Once m ↔ (m.map (·.1)).Nodup := by unfold Once List.Nodup; rw [List.pairwise_map]
theorem once_put [DecidableEq K] {m : List (K × V)} (h : Once m) (k : K) (v : V) : Once (mput m k v) := by
  rw [once_iff] at h ⊢
  rw [mput_keys]
  split
  · exact h
  · rename_i hs
    rw [mget_isSome] at hs
    exact List.nodup_append.2 ⟨h, by simp, fun a ha b hb => by simp only [List.mem_singleton] at hb; subst hb; rintro rfl; exact hs ha⟩
theorem once_nil : Once ([] : List (K × V)) := List.Pairwise.nil

/-- 'v, ok := m[k]', 'v := m[k]'. -/
theorem OwnM.look [DecidableEq K] (h : OwnM ek ev w base b m) (ho : Once m) (K0 : KeyOk P kt ek) (ht : P.underlying t = some (.map kt et)) {z : V} (hz : (zeroValue et).run P w = .ok (ev z) w) (c : Bool) (x : K) :
    (Instr.lookup t (.map (some b)) (ek x) c).run P w = .ok (if c then .tuple #[ev ((mget m x).getD z), .bool (mget m x).isSome] else ev ((mget m x).getD z)) w := by
  obtain ⟨_, es, clock, hb, he⟩ := h
  rcases K0.find w x es.toList (entries_keys he) with ⟨h1, h2⟩ | ⟨j, e, h1, h2, h3⟩
  · have hg := find_get K0 w x es.toList m he h2
    simp [Instr.lookup, run_underlying ht, MapKept.run_getObj_map hb, K0.check w _ x, h1, hz, Result.andThen, hg]
  · have hm : ∃ p, m[j]? = some p ∧ e.key = ek p.1 ∧ e.val = ev p.2 := by
      have h4 : (es.toList.map (fun e => (e.key, e.val)))[j]? = some (e.key, e.val) := by rw [List.getElem?_map, h2]; rfl
      rw [he, List.getElem?_map] at h4
      cases hp : m[j]? with
      | none => rw [hp] at h4; cases h4
      | some p => rw [hp] at h4; simp only [Option.map_some, Option.some.injEq, Prod.mk.injEq] at h4; exact ⟨p, rfl, h4.1.symm, h4.2.symm⟩
    obtain ⟨p, hp, hk, hv⟩ := hm
    have hx : p.1 = x := K0.inj (hk.symm.trans h3)
    have hg : mget m x = some p.2 := hx ▸ once_get ho hp
    simp [Instr.lookup, run_underlying ht, MapKept.run_getObj_map hb, K0.check w _ x, h1, Result.andThen, hg, hv]

theorem map_set_of [DecidableEq K] {m : List (K × V)} (ho : Once m) {j : Nat} {p : K × V} (hj : m[j]? = some p) (v : V) : m.map (fun q => if q.1 = p.1 then (p.1, v) else q) = m.set j (p.1, v) := by
  apply List.ext_getElem?
  intro i
  rw [List.getElem?_map, List.getElem?_set]
  by_cases hij : j = i
  · subst hij
    obtain ⟨hlt, he⟩ := List.getElem?_eq_some_iff.1 hj
    simp [hlt, he]
  · rw [if_neg hij]
    cases hi : m[i]? with
    | none => rfl
    | some q =>
      have : q.1 ≠ p.1 := by
        intro he
        have h1 := (once_iff m).1 ho
        have h2 : (m.map (·.1))[i]? = some q.1 := by simp [hi]
        have h3 : (m.map (·.1))[j]? = some p.1 := by simp [hj]
        obtain ⟨l2, e2⟩ := List.getElem?_eq_some_iff.1 h2
        obtain ⟨l3, e3⟩ := List.getElem?_eq_some_iff.1 h3
        exact hij ((List.getElem_inj (h₀ := l3) (h₁ := l2) h1).1 (e3.trans (he.symm.trans e2.symm)))
      simp [this]

/-- 'm[k] = v'. -/
theorem OwnM.put [DecidableEq K] (h : OwnM ek ev w base b m) (ho : Once m) (K0 : KeyOk P kt ek) (ht : P.underlying t = some (.map kt et)) (x : K) (v : V) :
    ∃ w', (Instr.mapUpdate t (.map (some b)) (ek x) (ev v)).run P w = .ok () w' ∧ OwnM ek ev w' base b (mput m x v) ∧ w.grownBy w' (some b) ∧ ∃ es clock, w'.heap = w.heap.setIfInBounds b (.map es clock) := by
  obtain ⟨h0, es, clock, hb, he⟩ := h
  have hsz : b < w.heap.size := (Array.getElem?_eq_some_iff.1 hb).1
  have hg : ∀ es' clock', w.grownBy { w with heap := w.heap.setIfInBounds b (.map es' clock') } (some b) := fun es' clock' => ⟨rfl, rfl, rfl, by simp, fun i hi hne => by
    have : i ≠ b := fun e => hne (by rw [e])
    show (w.heap.setIfInBounds b (.map es' clock'))[i]? = _
    simp [Ne.symm this]⟩
  rcases K0.find w x es.toList (entries_keys he) with ⟨h1, h2⟩ | ⟨j, e, h1, h2, h3⟩
  · refine ⟨{ w with heap := w.heap.setIfInBounds b (.map (es.push ⟨ek x, ev v, clock⟩) (clock + 1)) }, ?_, ⟨h0, es.push ⟨ek x, ev v, clock⟩, clock + 1, (MapKept.heap_set hb).1, ?_⟩, hg _ _, _, _, rfl⟩
    · simp [Instr.mapUpdate, run_underlying ht, MapKept.run_getObj_map hb, K0.check w false x, h1, MapKept.run_setObj_map _ hb, Result.andThen]
    · have hn := find_get K0 w x es.toList m he h2
      simp [mput, hn, he]
  · have hj : es[j]? = some e := by simpa using h2
    have hm : ∃ p, m[j]? = some p ∧ e.key = ek p.1 ∧ e.val = ev p.2 := by
      have h4 : (es.toList.map (fun e => (e.key, e.val)))[j]? = some (e.key, e.val) := by rw [List.getElem?_map, h2]; rfl
      rw [he, List.getElem?_map] at h4
      cases hp : m[j]? with
      | none => rw [hp] at h4; cases h4
      | some p => rw [hp] at h4; simp only [Option.map_some, Option.some.injEq, Prod.mk.injEq] at h4; exact ⟨p, rfl, h4.1.symm, h4.2.symm⟩
    obtain ⟨p, hp, hk, hv⟩ := hm
    have hx : p.1 = x := K0.inj (hk.symm.trans h3)
    subst hx
    have hgs : mget m p.1 = some p.2 := once_get ho hp
    refine ⟨{ w with heap := w.heap.setIfInBounds b (.map (es.modify j fun e => { e with key := ek p.1, val := ev v }) clock) }, ?_, ⟨h0, es.modify j fun e => { e with key := ek p.1, val := ev v }, clock, (MapKept.heap_set hb).1, ?_⟩, hg _ _, _, _, rfl⟩
    · simp [Instr.mapUpdate, run_underlying ht, MapKept.run_getObj_map hb, K0.check w false p.1, h1, hj, h3, K0.stays w p.1, MapKept.run_setObj_map _ hb, Result.andThen]
    · have hlist : (es.modify j (fun e => { e with key := ek p.1, val := ev v })).toList = es.toList.set j { e with key := ek p.1, val := ev v } := by rw [Array.toList_modify, ChangeMaps.modify_eq_set _ _ _ _ h2]
      rw [hlist, List.map_set, he, mput, hgs]
      simp only [Option.isSome_some, if_true]
      rw [map_set_of ho hp, List.map_set]

/-- 'len(m)'. -/
theorem OwnM.len (h : OwnM ek ev w base b m) (ht : P.underlying t = some (.map kt et)) (ty : TypeId) : (Builtin.len_ #[t] ty #[.map (some b)]).run P w = .ok (.int .i64 m.length) w := by
  obtain ⟨_, es, clock, hb, he⟩ := h
  have hl : es.size = m.length := by have := congrArg List.length he; simpa using this
  simp [Builtin.len_, run_underlying ht, MapKept.run_getObj_map hb, goInt, Result.andThen, hl]
end

section
variable {K V : Type} {P : Program} {w : World} {ops : Array Oper} {rest : List Oper} {o : Oper} {a : Act} {Q : Exit → Act → World → Prop} {ek : K → Value} {ev : V → Value} {base : Nat}
/-- At the operation. -/
theorem wp_mlook [DecidableEq K] (hg : o.guard = none) (mo x : Operand) (t : TypeId) (c : Bool) (hop : o.op = Op.lookup t mo x c) (kt et : TypeId) (K0 : KeyOk P kt ek) (ht : P.underlying t = some (.map kt et)) (b : Nat) (m : List (K × V))
    (hown : OwnM ek ev w base b m) (ho : Once m) (hm : a.eval mo = .map (some b)) (key : K) (hx : a.eval x = ek key) (z : V) (hz : (zeroValue et).run P w = .ok (ev z) w)
    (hK : wpList P ops Q rest (a.put o.dst (if c then .tuple #[ev ((mget m key).getD z), .bool (mget m key).isSome] else ev ((mget m key).getD z))) w) : wpList P ops Q (o :: rest) a w := by
  refine wpList_plain hg fun K' hK' => ?_
  unfold Oper.wp
  simp [execOp, hop, hm, hx, hown.look ho K0 ht hz c key, Result.andThen]
  exact hK' _ _ hK
theorem wp_mput [DecidableEq K] (hg : o.guard = none) (mo x v : Operand) (t : TypeId) (hop : o.op = Op.mapUpdate t mo x v) (kt et : TypeId) (K0 : KeyOk P kt ek) (ht : P.underlying t = some (.map kt et)) (b : Nat) (m : List (K × V))
    (hown : OwnM ek ev w base b m) (ho : Once m) (hm : a.eval mo = .map (some b)) (key : K) (hx : a.eval x = ek key) (val : V) (hv : a.eval v = ev val)
    (hK : ∀ w', OwnM ek ev w' base b (mput m key val) → w.grownBy w' (some b) → wpList P ops Q rest (a.put o.dst undef) w') : wpList P ops Q (o :: rest) a w := by
  refine wpList_plain hg fun K' hK' => ?_
  obtain ⟨w', hrun, r1, r2, _⟩ := hown.put ho K0 ht key val
  unfold Oper.wp
  simp [execOp, hop, hm, hx, hv, hrun, Result.andThen]
  exact hK' _ _ (hK w' r1 r2)
theorem wp_mlen (hg : o.guard = none) (mo : Operand) (t : TypeId) (hop : o.op = Op.call { callee := Callee.builtin Builtin.len, args := #[mo], argTypes := #[t] }) (kt et : TypeId) (ht : P.underlying t = some (.map kt et)) (b : Nat) (m : List (K × V))
    (hown : OwnM ek ev w base b m) (hm : a.eval mo = .map (some b))
    (hK : wpList P ops Q rest (a.put o.dst (.int .i64 m.length)) w) : wpList P ops Q (o :: rest) a w := by
  refine wpList_plain hg fun K' hK' => ?_
  unfold Oper.wp
  simp [execOp, hop, resolve, invoke, builtin, hm, hown.len ht o.type, Result.andThen]
  exact hK' _ _ hK
end
end Go.Proofs.YtpjbmgoagehjkaaH
