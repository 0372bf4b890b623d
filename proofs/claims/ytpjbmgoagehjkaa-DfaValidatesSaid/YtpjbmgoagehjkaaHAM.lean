/- Maps that a call makes, as a value of their own (AM) and as a block that says it (mapO). -/
import Derived.Test.YtpjbmgoagehjkaaHMap
import Derived.Test.YtpjbmgoagehjkaaHRow
import Derived.Test.YtpjbmgoagehjkaaWWords
import Derived.Test.YtpjbmgoagehjkaaWApart
import Derived.Test.YtpjbmgoagehjkaaWMore
namespace Go.Proofs.YtpjbmgoagehjkaaH
open Go Go.RowKit Go.Proofs.YtpjbmgoagehjkaaW.PrintWords
set_option linter.unusedSimpArgs false
set_option linter.unusedVariables false
set_option linter.unusedSectionVars false
/-- A map: its entries in the order in which they came, no key twice. -/
structure AM (K V : Type) where
  l : List (K × V)
  once : Once l
namespace AM
section
variable {K V : Type}
def nil : AM K V := ⟨[], once_nil⟩
def size (m : AM K V) : Nat := m.l.length
variable [DecidableEq K]
def put (m : AM K V) (k : K) (v : V) : AM K V := ⟨mput m.l k v, once_put m.once k v⟩
def has (m : AM K V) (k : K) : Bool := (mget m.l k).isSome
def get (m : AM K V) (k : K) (z : V) : V := (mget m.l k).getD z
end
end AM
section
variable {K V : Type} {ek : K → Value} {ev : V → Value}
def mEnts (ek : K → Value) (ev : V → Value) : Nat → List (K × V) → List MapEntry
  | _, [] => []
  | i, p :: l => ⟨ek p.1, ev p.2, i⟩ :: mEnts ek ev (i + 1) l
def mapO (ek : K → Value) (ev : V → Value) (m : AM K V) : Obj := .map (mEnts ek ev 0 m.l).toArray m.l.length
theorem mEnts_map : ∀ (l : List (K × V)) (i : Nat), (mEnts ek ev i l).map (fun e => (e.key, e.val)) = l.map (fun p => (ek p.1, ev p.2))
  | [], _ => rfl
  | p :: l, i => by simp [mEnts, mEnts_map l (i + 1)]
theorem mEnts_append : ∀ (l : List (K × V)) (i : Nat) (p : K × V), mEnts ek ev i (l ++ [p]) = mEnts ek ev i l ++ [⟨ek p.1, ev p.2, i + l.length⟩]
  | [], _, _ => rfl
  | q :: l, i, p => by simp [mEnts, mEnts_append l (i + 1) p]; omega
theorem mEnts_get : ∀ (l : List (K × V)) (i j : Nat), (mEnts ek ev i l)[j]? = l[j]?.map (fun p => ⟨ek p.1, ev p.2, i + j⟩)
  | [], _, _ => rfl
  | q :: l, i, 0 => by simp [mEnts]
  | q :: l, i, j + 1 => by
    simp only [mEnts, List.getElem?_cons_succ]
    rw [mEnts_get l (i + 1) j]
    congr 1
    funext p
    rw [Nat.add_assoc, Nat.add_comm 1 j]
theorem mEnts_set (l : List (K × V)) (j : Nat) (p : K × V) : mEnts ek ev 0 (l.set j p) = (mEnts ek ev 0 l).set j ⟨ek p.1, ev p.2, j⟩ := by
  apply List.ext_getElem?
  intro i
  rw [mEnts_get, List.getElem?_set, List.getElem?_set, mEnts_get]
  have hl : (mEnts ek ev 0 l).length = l.length := by have := congrArg List.length (mEnts_map (ek := ek) (ev := ev) l 0); simpa using this
  rw [hl]
  by_cases h : j = i
  · subst h
    by_cases h2 : j < l.length <;> simp [h2]
  · simp [h]
end
section
variable {K V α : Type} {ek : K → Value} {ev : V → Value} {w w1 W : World} {base b e : Nat} {m : AM K V} {d : Kd α} {ok : Nat → Prop} {v : Value} {xs : List α} {P : Program} {kt et t : TypeId}
theorem mapO_own (h : w.heap[b]? = some (mapO ek ev m)) : OwnM ek ev w 0 b m.l := ⟨Nat.zero_le _, _, _, h, by simp [mEnts_map]⟩
theorem mapO_put [DecidableEq K] (h : w.heap[b]? = some (mapO ek ev m)) (K0 : KeyOk P kt ek) (ht : P.underlying t = some (.map kt et)) (x : K) (v : V) :
    ∃ w', (Instr.mapUpdate t (.map (some b)) (ek x) (ev v)).run P w = .ok () w' ∧ w'.heap[b]? = some (mapO ek ev (m.put x v)) ∧ w.grownBy w' (some b) := by
  have ho := m.once
  have hb : w.heap[b]? = some (.map (mEnts ek ev 0 m.l).toArray m.l.length) := h
  have he : ((mEnts ek ev 0 m.l).toArray.toList).map (fun e => (e.key, e.val)) = m.l.map (fun p => (ek p.1, ev p.2)) := by simp [mEnts_map]
  have hsz : b < w.heap.size := (Array.getElem?_eq_some_iff.1 hb).1
  have hg : ∀ es' clock', w.grownBy { w with heap := w.heap.setIfInBounds b (.map es' clock') } (some b) := fun es' clock' => ⟨rfl, rfl, rfl, by simp, fun i hi hne => by
    have : i ≠ b := fun e => hne (by rw [e])
    show (w.heap.setIfInBounds b (.map es' clock'))[i]? = _
    simp [Ne.symm this]⟩
  rcases K0.find w x (mEnts ek ev 0 m.l).toArray.toList (entries_keys he) with ⟨h1, h2⟩ | ⟨j, e, h1, h2, h3⟩
  · refine ⟨{ w with heap := w.heap.setIfInBounds b (.map ((mEnts ek ev 0 m.l).toArray.push ⟨ek x, ev v, m.l.length⟩) (m.l.length + 1)) }, ?_, ?_, hg _ _⟩
    · simp [Instr.mapUpdate, run_underlying ht, MapKept.run_getObj_map hb, K0.check w false x, h1, MapKept.run_setObj_map _ hb, Result.andThen]
    · have hn := find_get K0 w x _ m.l he h2
      rw [(MapKept.heap_set hb).1]
      simp [mapO, AM.put, mput, hn, mEnts_append]
  · have hm : ∃ p, m.l[j]? = some p ∧ e.key = ek p.1 ∧ e.val = ev p.2 ∧ e.born = j := by
      rw [List.toList_toArray, mEnts_get] at h2
      cases hp : m.l[j]? with
      | none => rw [hp] at h2; cases h2
      | some p => rw [hp] at h2; simp only [Option.map_some, Option.some.injEq] at h2; subst h2; exact ⟨p, rfl, rfl, rfl, Nat.zero_add _⟩
    obtain ⟨p, hp, hk, hv, hbn⟩ := hm
    have hx : p.1 = x := K0.inj (hk.symm.trans h3)
    subst hx
    have hgs : mget m.l p.1 = some p.2 := once_get ho hp
    have hj : (mEnts ek ev 0 m.l).toArray[j]? = some e := by simpa using h2
    refine ⟨{ w with heap := w.heap.setIfInBounds b (.map ((mEnts ek ev 0 m.l).toArray.modify j fun e => { e with key := ek p.1, val := ev v }) m.l.length) }, ?_, ?_, hg _ _⟩
    · generalize (mEnts ek ev 0 m.l).toArray = es at h1 h2 hj hb
      simp [Instr.mapUpdate, run_underlying ht, MapKept.run_getObj_map hb, K0.check w false p.1, h1, hj, h3, K0.stays w p.1, MapKept.run_setObj_map _ hb, Result.andThen]
    · rw [(MapKept.heap_set hb).1]
      have hlist : ((mEnts ek ev 0 m.l).toArray.modify j (fun e => { e with key := ek p.1, val := ev v })) = (mEnts ek ev 0 (m.l.set j (p.1, v))).toArray := by
        apply Array.toList_inj.1
        rw [Array.toList_modify, ChangeMaps.modify_eq_set _ _ _ _ h2, mEnts_set]
        simp [hbn]
      rw [hlist]
      simp only [mapO, AM.put, mput, hgs, Option.isSome_some, if_true]
      rw [map_set_of ho hp, List.length_set]
/-- No row lies in a map's block. -/
theorem blkM_ne (hm : w.heap[b]? = some (mapO ek ev m)) {k : Nat} {cells : Array Value} {q : TypeId} {fr : Nat × Nat} (hk : w.heap[k]? = some (.cells cells q fr)) : k ≠ b := by
  rintro rfl
  rw [hk] at hm
  cases hm
theorem blkM_ne' (hm : w.heap[b]? = some (mapO ek ev m)) {k : Nat} {cells : Array Value} {q : TypeId} {fr : Nat × Nat} (hk : w.heap[k]? = some (.cells cells q fr)) : some k ≠ some b := fun h => blkM_ne hm hk (Option.some.inj h)
theorem R_typesM (h : d.R e w base ok v xs) (hm : w.heap[b]? = some (mapO ek ev m)) : d.R e w base (fun k => ok k ∧ k ≠ b) v xs :=
  Kd.R_mono (Kd.R_bound h) (fun k hk => ⟨hk.1, by obtain ⟨_, _, _, q, _, cells, hc⟩ := hk; exact blkM_ne hm hc⟩)
theorem S_typesM (h : Kd.S d e w base ok v xs) (hm : w.heap[b]? = some (mapO ek ev m)) : Kd.S d e w base (fun k => ok k ∧ k ≠ b) v xs :=
  Kd.S_mono (Kd.S_bound h) (fun k hk => ⟨hk.1, by obtain ⟨_, _, _, q, _, cells, hc⟩ := hk; exact blkM_ne hm hc⟩)
theorem Q_typesM (h : d.Q e w base ok v xs) (hm : w.heap[b]? = some (mapO ek ev m)) : d.Q e w base (fun k => ok k ∧ k ≠ b) v xs :=
  Kd.Q_mono (Kd.Q_bound h) (fun k hk => ⟨hk.1, by obtain ⟨_, _, _, q, _, cells, hc⟩ := hk; exact blkM_ne hm hc⟩)
theorem R_neM (h : d.R e w base ok v xs) (hm : w.heap[b]? = some (mapO ek ev m)) : some b ≠ v.ownBlock := fun he => by
  obtain ⟨cells, hc⟩ := Kd.R_typed h b he.symm
  exact blkM_ne hm hc rfl
theorem S_neM (h : Kd.S d e w base ok v xs) (hm : w.heap[b]? = some (mapO ek ev m)) : some b ≠ v.ownBlock := R_neM (Kd.S_R h) hm
theorem N_neM (h : Kd.N d e w base ok v xs) (hm : w.heap[b]? = some (mapO ek ev m)) : some b ≠ v.ownBlock := by
  obtain ⟨_, rows, _, hr, _⟩ := h
  exact R_neM hr hm
theorem Q_neM (h : d.Q e w base ok v xs) (hm : w.heap[b]? = some (mapO ek ev m)) : some b ≠ v.ownBlock := fun he => by
  obtain ⟨_, _, _, q, _, cells, hc⟩ := (Kd.Q_bound h).1 b he.symm
  exact blkM_ne hm hc rfl
/-- A store into the map leaves the rows. -/
theorem R_overM (h : d.R e w base ok v xs) (hm : w.heap[b]? = some (mapO ek ev m)) (hg : w.grownBy w1 (some b)) : d.R e w1 base ok v xs :=
  Kd.R_mono (Kd.R_grown (R_typesM h hm) hg (fun k hk he => hk.2 (Option.some.inj he))) (fun k hk => hk.1)
theorem S_overM (h : Kd.S d e w base ok v xs) (hm : w.heap[b]? = some (mapO ek ev m)) (hg : w.grownBy w1 (some b)) : Kd.S d e w1 base ok v xs :=
  Kd.S_mono (Kd.S_grown (S_typesM h hm) hg (fun k hk he => hk.2 (Option.some.inj he))) (fun k hk => hk.1)
theorem Q_overM (h : d.Q e w base ok v xs) (hm : w.heap[b]? = some (mapO ek ev m)) (hg : w.grownBy w1 (some b)) : d.Q e w1 base ok v xs :=
  Kd.Q_mono (Kd.Q_grown (Q_typesM h hm) hg (fun k hk he => hk.2 (Option.some.inj he))) (fun k hk => hk.1)
theorem blkF {g : Nat} {o : Obj} (h : w.heap[g]? = some o) {p : Addr} (hp : g ≠ p.block) (u : Value) : (w.setCell p u).heap[g]? = some o := (Below.heap_setCell w p u g hp).trans h
theorem below_mapO {B : Nat} {w0 : World} (h : Below B w0 w) (hB : B ≤ w.heap.size) (hb : B ≤ b) (hg : w.grownBy w1 (some b)) : Below B w0 w1 :=
  h.grown hg hB (fun k hk => by cases hk; exact hb)
theorem keyOk_bool (hd : P.underlying kt = some .bool) : KeyOk (K := Bool) P kt Value.bool := keyOk_plain hd (fun _ => trivial) (fun h => by injection h)
theorem bytes_toList_inj {a b : ByteArray} : a.data.toList = b.data.toList ↔ a = b :=
  ⟨fun h => by cases a; cases b; have h2 := Array.toList_inj.1 h; simp only at h2; rw [h2], fun h => by rw [h]⟩
/-- Keys that are compared by '=='. -/
theorem keyOk_wide (hwide : (match P.underlying kt with | some (.array _ _) | some (.struct _) => true | _ => false) = true) [DecidableEq K]
    (hi : ∀ {x y : K}, ek x = ek y → x = y)
    (hchk : ∀ (w : World) (em : Bool) (x : K), (Instr.checkKey em 10000 kt (ek x)).run P w = .ok () w)
    (heq : ∀ (w : World) (x y : K), (Op.equal kt (ek x) (ek y)).run P w = .ok (decide (x = y)) w)
    (hs : ∀ x : K, Instr.sameBits 10000 (ek x) (ek x) = true) : KeyOk P kt ek where
  inj := hi
  check := hchk
  find w x es hes := by
    rw [run_findKey_eq w hwide]
    have key : ∀ (es : List MapEntry) (i : Nat), (∀ e ∈ es, ∃ y : K, e.key = ek y) →
        ((Instr.findAsking kt (ek x) es i).run P w = .ok none w ∧ ∀ e ∈ es, e.key ≠ ek x) ∨ ∃ j e, (Instr.findAsking kt (ek x) es i).run P w = .ok (some (i + j, e.val)) w ∧ es[j]? = some e ∧ e.key = ek x := by
      intro es
      induction es with
      | nil => exact fun i _ => .inl ⟨by simp [Instr.findAsking], by simp⟩
      | cons e es ih =>
        intro i hall
        obtain ⟨y, hy⟩ := hall e (by simp)
        by_cases hxy : x = y
        · refine .inr ⟨0, e, by simp [Instr.findAsking, hy, heq, hxy], rfl, by rw [hy, hxy]⟩
        · rcases ih (i + 1) (fun z hz => hall z (by simp [hz])) with ⟨h1, h2⟩ | ⟨j, e', h1, h2, h3⟩
          · refine .inl ⟨by simp [Instr.findAsking, hy, heq, hxy, h1], fun z hz => ?_⟩
            rcases List.mem_cons.1 hz with rfl | hz
            · rw [hy]; exact fun h => hxy (hi h).symm
            · exact h2 z hz
          · exact .inr ⟨j + 1, e', by simp [Instr.findAsking, hy, heq, hxy, h1, Nat.add_assoc, Nat.add_comm 1 j], by simpa using h2, h3⟩
    have := key es 0 hes
    simpa using this
  stays w x := by simp [Instr.keyThatStays, hs x]
end
section
variable {K V : Type} {P : Program} {W : World} {ops : Array Oper} {rest : List Oper} {o : Oper} {a : Act} {Q : Exit → Act → World → Prop} {ek : K → Value} {ev : V → Value} {b : Nat} {m : AM K V}
/-- 'make(map[K]V)'. -/
theorem map_event (ek : K → Value) (ev : V → Value) (hgd : o.guard = none) {N : Tmp} (_hd : o.dst = some N)
    (hrun : (execOp a.eval o).run P W = .ok (.value (.map (some W.heap.size))) (W.alloc (.map #[] 0)))
    (h : ∀ g, g = W.heap.size → ∀ w1, w1.heap[g]? = some (mapO ek ev AM.nil) → Below W.heap.size W w1 → wpList P ops Q rest (a.put o.dst (.map (some g))) w1) : wpList P ops Q (o :: rest) a W :=
  Kd.event_run hgd hrun (h _ rfl _ (blk_new W _) (below_alloc (Below.refl _ _) _))
theorem wp_lookOk [DecidableEq K] (hg : o.guard = none) (mo x : Operand) (t : TypeId) (hop : o.op = Op.lookup t mo x true) (kt et : TypeId) (K0 : KeyOk P kt ek) (ht : P.underlying t = some (.map kt et)) (b : Nat) (m : AM K V)
    (hown : W.heap[b]? = some (mapO ek ev m)) (hm : a.eval mo = .map (some b)) (key : K) (hx : a.eval x = ek key) (z : V) (hz : (zeroValue et).run P W = .ok (ev z) W)
    (hK : wpList P ops Q rest (a.put o.dst (.tuple #[ev (m.get key z), .bool (m.has key)])) W) : wpList P ops Q (o :: rest) a W :=
  wp_mlook hg mo x t true hop kt et K0 ht b m.l (mapO_own hown) m.once hm key hx z hz hK
theorem wp_look [DecidableEq K] (hg : o.guard = none) (mo x : Operand) (t : TypeId) (hop : o.op = Op.lookup t mo x false) (kt et : TypeId) (K0 : KeyOk P kt ek) (ht : P.underlying t = some (.map kt et)) (b : Nat) (m : AM K V)
    (hown : W.heap[b]? = some (mapO ek ev m)) (hm : a.eval mo = .map (some b)) (key : K) (hx : a.eval x = ek key) (z : V) (hz : (zeroValue et).run P W = .ok (ev z) W)
    (hK : wpList P ops Q rest (a.put o.dst (ev (m.get key z))) W) : wpList P ops Q (o :: rest) a W :=
  wp_mlook hg mo x t false hop kt et K0 ht b m.l (mapO_own hown) m.once hm key hx z hz hK
theorem wp_putM [DecidableEq K] (hg : o.guard = none) (mo x v : Operand) (t : TypeId) (hop : o.op = Op.mapUpdate t mo x v ∨ o.op = Op.insert t mo x v) (kt et : TypeId) (K0 : KeyOk P kt ek) (ht : P.underlying t = some (.map kt et)) (b : Nat) (m : AM K V)
    (hown : W.heap[b]? = some (mapO ek ev m)) (hm : a.eval mo = .map (some b)) (key : K) (hx : a.eval x = ek key) (val : V) (hv : a.eval v = ev val)
    (hK : ∀ w', w'.heap[b]? = some (mapO ek ev (m.put key val)) → W.grownBy w' (some b) → wpList P ops Q rest (a.put o.dst undef) w') : wpList P ops Q (o :: rest) a W := by
  refine wpList_plain hg fun K' hK' => ?_
  obtain ⟨w', hrun, r1, r2⟩ := mapO_put hown K0 ht key val
  unfold Oper.wp
  rcases hop with hop | hop <;>
  · simp [execOp, hop, hm, hx, hv, hrun, Result.andThen]
    exact hK' _ _ (hK w' r1 r2)
theorem wp_lenM (hg : o.guard = none) (mo : Operand) (t : TypeId) (hop : o.op = Op.call { callee := Callee.builtin Builtin.len, args := #[mo], argTypes := #[t] }) (kt et : TypeId) (ht : P.underlying t = some (.map kt et)) (b : Nat) (m : AM K V)
    (hown : W.heap[b]? = some (mapO ek ev m)) (hm : a.eval mo = .map (some b))
    (hK : wpList P ops Q rest (a.put o.dst (.int .i64 (m.size : Int))) W) : wpList P ops Q (o :: rest) a W :=
  wp_mlen hg mo t hop kt et ht b m.l (mapO_own hown) hm hK
end
namespace AM
section
variable {K V : Type} [DecidableEq K]
theorem has_nil (k : K) : (nil : AM K V).has k = false := rfl
theorem get_nil (k : K) (z : V) : (nil : AM K V).get k z = z := rfl
theorem mget_mput (m : List (K × V)) (k k' : K) (v : V) : mget (mput m k v) k' = if k = k' then some v else mget m k' := by
  induction m with
  | nil => simp [mput, mget_nil, mget_cons]
  | cons p m ih =>
    unfold mput at ih ⊢
    by_cases hp : p.1 = k
    · subst hp
      simp only [mget_cons, if_true, Option.isSome_some]
      rw [List.map_cons, if_pos rfl, mget_cons]
      by_cases hk : p.1 = k'
      · simp [hk]
      · rw [if_neg hk, if_neg hk]
        have : ∀ l : List (K × V), mget (l.map (fun q => if q.1 = p.1 then (p.1, v) else q)) k' = mget l k' := by
          intro l
          induction l with
          | nil => rfl
          | cons q l ih =>
            rw [List.map_cons, mget_cons, mget_cons]
            by_cases hq : q.1 = p.1
            · rw [if_pos hq, ih]; simp only [hq, if_neg hk]
            · rw [if_neg hq, ih]
        rw [this, if_neg hk]
    · rw [mget_cons, if_neg hp]
      by_cases hs : (mget m k).isSome = true
      · rw [if_pos hs] at ih ⊢
        rw [List.map_cons, if_neg hp, mget_cons, mget_cons, ih]
        by_cases hk : k = k'
        · subst hk; simp [hp]
        · rw [if_neg hk, if_neg hk]
      · rw [if_neg hs] at ih ⊢
        rw [List.cons_append, mget_cons, mget_cons, ih]
        by_cases hk : k = k'
        · subst hk; simp [hp]
        · rw [if_neg hk, if_neg hk]
theorem has_put (m : AM K V) (k k' : K) (v : V) : (m.put k v).has k' = (decide (k = k') || m.has k') := by
  unfold has put
  rw [mget_mput]
  by_cases h : k = k' <;> simp [h]
theorem get_put (m : AM K V) (k k' : K) (v z : V) : (m.put k v).get k' z = if k = k' then v else m.get k' z := by
  unfold get put
  rw [mget_mput]
  by_cases h : k = k' <;> simp [h]
theorem size_nil : (nil : AM K V).size = 0 := rfl
theorem size_put (m : AM K V) (k : K) (v : V) : (m.put k v).size = if m.has k = true then m.size else m.size + 1 := by
  unfold size put has mput
  by_cases h : (mget m.l k).isSome = true
  · simp [h]
  · simp [h]
end
end AM
end Go.Proofs.YtpjbmgoagehjkaaH
