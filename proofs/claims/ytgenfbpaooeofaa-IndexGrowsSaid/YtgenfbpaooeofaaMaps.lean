/- Maps with struct keys, told as lists of pairs: look-up, store, delete, length, range. Plain laws over the model's runs; any program. No condition but each theorem's own. -/
import Derived.Maps.RangeWalk
import Derived.WalkKit
namespace Go.Proofs.Ytgenfbpaooeofaa.M
open Go Go.MapKept
open Go.ChangeMaps (setBlock heap_setBlock_same heap_setBlock_other modify_eq_set)
set_option maxHeartbeats 1000000
set_option linter.unusedSectionVars false
set_option linter.unusedVariables false
set_option linter.unusedSimpArgs false

/-- what is wanted of a key's type -/
structure KeyK (P : Program) (k : TypeId) {α : Type} (mk : α → Value) : Prop where
  inj : ∀ {a b : α}, mk a = mk b → a = b
  check : ∀ (w : World) (em : Bool) (a : α), (Instr.checkKey em 10000 k (mk a)).run P w = .ok () w
  find : ∀ (w : World) (a : α) (es : List MapEntry), (∀ e ∈ es, ∃ b, e.key = mk b) →
    ((Instr.findKey k (mk a) es).run P w = .ok none w ∧ ∀ e ∈ es, e.key ≠ mk a) ∨ ∃ j e, (Instr.findKey k (mk a) es).run P w = .ok (some (j, e.val)) w ∧ es[j]? = some e ∧ e.key = mk a
  stays : ∀ (w : World) (a : α), (Instr.keyThatStays (mk a) (mk a)).run P w = .ok (mk a) w

section
variable {α β : Type} [DecidableEq α]
def kv (mk : α → Value) (mv : β → Value) (p : α × β) : Value × Value := (mk p.1, mv p.2)
def ekv (e : MapEntry) : Value × Value := (e.key, e.val)

/-- block b is a map that holds these pairs -/
def MapAt (w : World) (b : Nat) (mk : α → Value) (mv : β → Value) (L : List (α × β)) : Prop :=
  ∃ es clock, w.heap[b]? = some (.map es clock) ∧ Stamped es clock ∧ es.toList.map ekv = L.map (kv mk mv)

def get (L : List (α × β)) (a : α) : Option β := (L.find? (fun p => p.1 = a)).map (·.2)
def put (L : List (α × β)) (a : α) (v : β) : List (α × β) := if (L.any fun p => p.1 = a) = true then L.map (fun p => if p.1 = a then (a, v) else p) else L ++ [(a, v)]
def del (L : List (α × β)) (a : α) : List (α × β) := L.filter (fun p => !(decide (p.1 = a)))

variable {mk : α → Value} {mv : β → Value} {w w' : World} {b : Nat} {L : List (α × β)}

theorem MapAt.of_block (h : MapAt w b mk mv L) (e : w'.heap[b]? = w.heap[b]?) : MapAt w' b mk mv L := by
  obtain ⟨es, clock, hb, r⟩ := h
  exact ⟨es, clock, e.trans hb, r⟩
theorem MapAt.lt (h : MapAt w b mk mv L) : b < w.heap.size := by
  obtain ⟨es, clock, hb, r⟩ := h
  exact (Array.getElem?_eq_some_iff.1 hb).1
theorem MapAt.made (w : World) (mk : α → Value) (mv : β → Value) : MapAt (w.alloc (.map #[] 0)) w.heap.size mk mv [] :=
  ⟨#[], 0, (heap_alloc w _).1, stamped_empty 0, rfl⟩

theorem keys_of {es : List MapEntry} (h : es.map ekv = L.map (kv mk mv)) : es.map (·.key) = L.map (fun p => mk p.1) := by
  have : (es.map ekv).map (·.1) = (L.map (kv mk mv)).map (·.1) := by rw [h]
  simpa [List.map_map, ekv, kv, Function.comp_def] using this
theorem keyed_of {es : List MapEntry} (h : es.map ekv = L.map (kv mk mv)) : ∀ e ∈ es, ∃ a, e.key = mk a := by
  intro e he
  have : e.key ∈ es.map (·.key) := List.mem_map.2 ⟨e, he, rfl⟩
  rw [keys_of h] at this
  obtain ⟨p, _, hp⟩ := List.mem_map.1 this
  exact ⟨p.1, hp.symm⟩
theorem apart_of (hi : ∀ {a b : α}, mk a = mk b → a = b) {es : List MapEntry} (hn : (es.map (·.key)).Nodup) (h : es.map ekv = L.map (kv mk mv)) : (L.map (·.1)).Nodup := by
  rw [keys_of h] at hn
  have e : L.map (fun p => mk p.1) = (L.map (·.1)).map mk := by rw [List.map_map]; rfl
  rw [e] at hn
  exact List.Pairwise.of_map mk (fun a b h e => h (by rw [e])) hn
theorem MapAt.nodup {P : Program} {k : TypeId} (K : KeyK P k mk) (h : MapAt w b mk mv L) : (L.map (·.1)).Nodup := by
  obtain ⟨es, clock, hb, hs, hl⟩ := h
  exact apart_of K.inj hs.2.2 hl

/-- where a key stands -/
theorem at_of {es : List MapEntry} (h : es.map ekv = L.map (kv mk mv)) {j : Nat} {e : MapEntry} (hj : es[j]? = some e) : ∃ p, L[j]? = some p ∧ e.key = mk p.1 ∧ e.val = mv p.2 := by
  have h1 : (es.map ekv)[j]? = some (ekv e) := by rw [List.getElem?_map, hj]; rfl
  rw [h, List.getElem?_map] at h1
  cases hp : L[j]? with
  | none => rw [hp] at h1; cases h1
  | some p =>
    rw [hp] at h1
    have h2 : kv mk mv p = ekv e := Option.some.inj h1
    have h3 : mk p.1 = e.key := congrArg Prod.fst h2
    have h4 : mv p.2 = e.val := congrArg Prod.snd h2
    exact ⟨p, rfl, h3.symm, h4.symm⟩
theorem none_of (hi : ∀ {a b : α}, mk a = mk b → a = b) {es : List MapEntry} (h : es.map ekv = L.map (kv mk mv)) {a : α} (hno : ∀ e ∈ es, e.key ≠ mk a) : ∀ p ∈ L, p.1 ≠ a := by
  intro p hp e
  have : mk p.1 ∈ L.map (fun p => mk p.1) := List.mem_map.2 ⟨p, hp, rfl⟩
  rw [← keys_of h] at this
  obtain ⟨x, hx, hk⟩ := List.mem_map.1 this
  exact hno x hx (by rw [hk, e])

theorem get_none {a : α} (h : ∀ p ∈ L, p.1 ≠ a) : get L a = none := by
  unfold get
  rw [List.find?_eq_none.2 (fun p hp => by simpa using h p hp)]
  rfl
theorem get_some {a : α} (hn : (L.map (·.1)).Nodup) {p : α × β} (hp : p ∈ L) (e : p.1 = a) : get L a = some p.2 := by
  unfold get
  cases hf : L.find? (fun p => p.1 = a) with
  | none => exact absurd e (by simpa using List.find?_eq_none.1 hf p hp)
  | some q =>
    have hq := List.mem_of_find?_eq_some hf
    have hqa : q.1 = a := by simpa using List.find?_some hf
    have : q = p := by
      clear hf
      induction L with
      | nil => cases hp
      | cons x r ih =>
        rw [List.map_cons, List.nodup_cons] at hn
        rcases List.mem_cons.1 hp with e1 | hp' <;> rcases List.mem_cons.1 hq with e2 | hq'
        · rw [e1, e2]
        · exact absurd (List.mem_map.2 ⟨q, hq', by rw [hqa, ← e, e1]⟩) hn.1
        · exact absurd (List.mem_map.2 ⟨p, hp', by rw [e, ← hqa, e2]⟩) hn.1
        · exact ih hn.2 hp' hq'
    rw [this]
    rfl

variable {P : Program} {k t e : TypeId}

/-- 'm[k]' -/
theorem MapAt.lookup (K : KeyK P k mk) (ht : P.underlying t = some (.map k e)) {z : Value} (hz : (zeroValue e).run P w = .ok z w) (h : MapAt w b mk mv L) (a : α) :
    (Instr.lookup t (.map (some b)) (mk a) false).run P w = .ok (match get L a with | some v => mv v | none => z) w := by
  obtain ⟨es, clock, hb, hs, hl⟩ := h
  rcases K.find w a es.toList (keyed_of hl) with ⟨h1, h2⟩ | ⟨j, e0, h1, h2, h3⟩
  · rw [get_none (none_of K.inj hl h2)]
    simp [Instr.lookup, run_underlying ht, MapKept.run_getObj_map hb, K.check w _ a, h1, hz, Result.andThen]
  · obtain ⟨p, hp, e1, e2⟩ := at_of hl h2
    rw [get_some (apart_of K.inj hs.2.2 hl) (List.mem_of_getElem? hp) (K.inj (e1.symm.trans h3))]
    simp [Instr.lookup, run_underlying ht, MapKept.run_getObj_map hb, K.check w _ a, h1, Result.andThen, e2]
theorem set_map {a : α} {v : β} (hn : (L.map (·.1)).Nodup) {j : Nat} {p : α × β} (hp : L[j]? = some p) (e : p.1 = a) : L.set j (a, v) = L.map (fun p => if p.1 = a then (a, v) else p) := by
  induction L generalizing j with
  | nil => simp at hp
  | cons x r ih =>
    rw [List.map_cons, List.nodup_cons] at hn
    cases j with
    | zero =>
      have : x = p := by simpa using hp
      subst this
      rw [List.set_cons_zero, List.map_cons, if_pos e]
      congr 1
      have h2 : r.map (fun p => if p.1 = a then (a, v) else p) = r.map id := List.map_congr_left (fun q hq => by
        rw [if_neg]
        · rfl
        · intro e2
          exact hn.1 (List.mem_map.2 ⟨q, hq, by rw [e2, e]⟩))
      rw [h2, List.map_id]
    | succ j =>
      rw [List.set_cons_succ, List.map_cons, if_neg, ih hn.2 (by simpa using hp)]
      intro e2
      exact hn.1 (List.mem_map.2 ⟨p, List.mem_of_getElem? (by simpa using hp), by rw [e, e2]⟩)

/-- 'm[k] = v' -/
theorem MapAt.store (K : KeyK P k mk) (ht : P.underlying t = some (.map k e)) (h : MapAt w b mk mv L) (a : α) (v : β) :
    ∃ o, (Instr.mapUpdate t (.map (some b)) (mk a) (mv v)).run P w = .ok () (setBlock w b o) ∧ MapAt (setBlock w b o) b mk mv (put L a v) ∧ ∀ i, i ≠ b → (setBlock w b o).heap[i]? = w.heap[i]? := by
  obtain ⟨es, clock, hb, hs, hl⟩ := h
  rcases K.find w a es.toList (keyed_of hl) with ⟨h1, h2⟩ | ⟨j, e0, h1, h2, h3⟩
  · refine ⟨_, ?_, ⟨es.push ⟨mk a, mv v, clock⟩, clock + 1, heap_setBlock_same hb _, stamped_push hs h2, ?_⟩, fun i hi => heap_setBlock_other hb _ hi⟩
    · simp [Instr.mapUpdate, run_underlying ht, MapKept.run_getObj_map hb, K.check w false a, h1, MapKept.run_setObj_map _ hb, Result.andThen, setBlock]
    · have hno := none_of K.inj hl h2
      have : (L.any fun p => p.1 = a) = false := by
        rw [List.any_eq_false]
        intro p hp
        simpa using hno p hp
      unfold put
      rw [this, if_neg (by simp)]
      simp [hl, ekv, kv]
  · obtain ⟨p, hp, e1, e2⟩ := at_of hl h2
    have hpa := K.inj (e1.symm.trans h3)
    have hj : es[j]? = some e0 := by simpa using h2
    have hkeyf : ∀ e', es[j]? = some e' → ({ e' with key := mk a, val := mv v } : MapEntry).key = e'.key := fun e' he' => by rw [hj] at he'; cases he'; exact h3.symm
    have hlist : (es.modify j (fun e' => { e' with key := mk a, val := mv v })).toList = es.toList.set j { e0 with key := mk a, val := mv v } := by rw [Array.toList_modify, modify_eq_set _ _ _ _ h2]
    refine ⟨_, ?_, ⟨es.modify j (fun e' => { e' with key := mk a, val := mv v }), clock, heap_setBlock_same hb _, stamped_modify hs _ _ (fun _ _ => rfl) (fun e' _ he' => hkeyf e' he'), ?_⟩, fun i hi => heap_setBlock_other hb _ hi⟩
    · simp [Instr.mapUpdate, run_underlying ht, MapKept.run_getObj_map hb, K.check w false a, h1, hj, h3, K.stays w a, MapKept.run_setObj_map _ hb, Result.andThen, setBlock]
    · have : (L.any fun p => p.1 = a) = true := List.any_eq_true.2 ⟨p, List.mem_of_getElem? hp, by simpa using hpa⟩
      unfold put
      rw [if_pos this, ← set_map (apart_of K.inj hs.2.2 hl) hp hpa, hlist, List.map_set, List.map_set, hl]
      rfl

/-- 'delete(m, k)' -/
theorem MapAt.drop {ty : TypeId} (K : KeyK P k mk) (ht : P.underlying t = some (.map k e)) (h : MapAt w b mk mv L) (a : α) :
    ∃ o, (Builtin.delete_ #[t, k] ty #[.map (some b), mk a]).run P w = .ok (.tuple #[]) (setBlock w b o) ∧ MapAt (setBlock w b o) b mk mv (del L a) ∧ ∀ i, i ≠ b → (setBlock w b o).heap[i]? = w.heap[i]? := by
  obtain ⟨es, clock, hb, hs, hl⟩ := h
  have hn := apart_of K.inj hs.2.2 hl
  rcases K.find w a es.toList (keyed_of hl) with ⟨h1, h2⟩ | ⟨j, e0, h1, h2, h3⟩
  · refine ⟨_, ?_, ⟨es, clock, heap_setBlock_same hb _, hs, ?_⟩, fun i hi => heap_setBlock_other hb _ hi⟩
    · simp [Builtin.delete_, run_underlying ht, MapKept.run_getObj_map hb, K.check w _ a, h1, MapKept.run_setObj_map _ hb, Result.andThen, setBlock]
    · have hno := none_of K.inj hl h2
      unfold del
      rw [List.filter_eq_self.2 (fun p hp => by simpa using hno p hp), hl]
  · obtain ⟨p, hp, e1, e2⟩ := at_of hl h2
    have hpa := K.inj (e1.symm.trans h3)
    have hjl : j < es.toList.length := (List.getElem?_eq_some_iff.1 h2).1
    have hjs : j < es.size := by simpa using hjl
    have hsub : (es.eraseIdxIfInBounds j).toList = es.toList.eraseIdx j := by
      unfold Array.eraseIdxIfInBounds
      rw [dif_pos hjs]
      simp
    refine ⟨_, ?_, ⟨es.eraseIdxIfInBounds j, clock, heap_setBlock_same hb _, stamped_erase hs j, ?_⟩, fun i hi => heap_setBlock_other hb _ hi⟩
    · simp [Builtin.delete_, run_underlying ht, MapKept.run_getObj_map hb, K.check w _ a, h1, MapKept.run_setObj_map _ hb, Result.andThen, setBlock]
    · rw [hsub, ChangeMaps.map_eraseIdx, hl, ← ChangeMaps.map_eraseIdx]
      congr 1
      unfold del
      clear hl h1 h2 hjl hjs hsub e1 e2
      induction L generalizing j with
      | nil => simp at hp
      | cons x r ih =>
        rw [List.map_cons, List.nodup_cons] at hn
        cases j with
        | zero =>
          have : x = p := by simpa using hp
          subst this
          rw [List.eraseIdx_cons_zero, List.filter_cons, if_neg (by simp [hpa])]
          refine (List.filter_eq_self.2 (fun q hq => ?_)).symm
          have : q.1 ≠ a := fun e2 => hn.1 (List.mem_map.2 ⟨q, hq, by rw [e2, hpa]⟩)
          simpa using this
        | succ j =>
          have hx : x.1 ≠ a := fun e2 => hn.1 (List.mem_map.2 ⟨p, List.mem_of_getElem? (by simpa using hp), by rw [hpa, e2]⟩)
          rw [List.eraseIdx_cons_succ, List.filter_cons, if_pos (by simpa using hx), ih hn.2 j (by simpa using hp)]
theorem delete_nil {ty : TypeId} (K : KeyK P k mk) (ht : P.underlying t = some (.map k e)) (a : α) :
    (Builtin.delete_ #[t, k] ty #[.map none, mk a]).run P w = .ok (.tuple #[]) w := by
  simp [Builtin.delete_, run_underlying ht, K.check w _ a, Result.andThen]
/-- 'len(m)' -/
theorem MapAt.len {ty : TypeId} (ht : P.underlying t = some (.map k e)) (h : MapAt w b mk mv L) :
    (Builtin.len_ #[t] ty #[.map (some b)]).run P w = .ok (goInt L.length) w := by
  obtain ⟨es, clock, hb, hs, hl⟩ := h
  have : es.size = L.length := by
    have := congrArg List.length hl
    simpa using this
  simp [Builtin.len_, run_underlying ht, MapKept.run_getObj_map hb, Result.andThen, this]

/-- 'for k, v := range m' under way: these are left -/
def RangeAt (w : World) (b r : Nat) (mk : α → Value) (mv : β → Value) (L left : List (α × β)) : Prop :=
  ∃ es clock since seen c0, w.heap[b]? = some (.map es clock) ∧ Stamped es clock ∧ es.toList.map ekv = L.map (kv mk mv) ∧
    w.heap[r]? = some (.mapIter (some b) since seen c0) ∧ (∀ x ∈ es.toList, x.born < since) ∧ since ≤ c0 ∧ since ≤ clock ∧ (leftOf es seen).toList.map ekv = left.map (kv mk mv)

variable {r : Nat} {left : List (α × β)}
theorem RangeAt.of_block (h : RangeAt w b r mk mv L left) (e : w'.heap[b]? = w.heap[b]?) (e2 : w'.heap[r]? = w.heap[r]?) : RangeAt w' b r mk mv L left := by
  obtain ⟨es, clock, since, seen, c0, hb, hs, hl, hr, rest⟩ := h
  exact ⟨es, clock, since, seen, c0, e.trans hb, hs, hl, e2.trans hr, rest⟩
theorem RangeAt.map (h : RangeAt w b r mk mv L left) : MapAt w b mk mv L := by
  obtain ⟨es, clock, since, seen, c0, hb, hs, hl, hr, rest⟩ := h
  exact ⟨es, clock, hb, hs, hl⟩
theorem RangeAt.ne (h : RangeAt w b r mk mv L left) : r ≠ b := by
  obtain ⟨es, clock, since, seen, c0, hb, hs, hl, hr, rest⟩ := h
  intro e
  rw [e, hb] at hr
  cases hr
theorem RangeAt.lt (h : RangeAt w b r mk mv L left) : r < w.heap.size := by
  obtain ⟨es, clock, since, seen, c0, hb, hs, hl, hr, rest⟩ := h
  exact (Array.getElem?_eq_some_iff.1 hr).1

theorem MapAt.range (ht : P.underlying t = some (.map k e)) (h : MapAt w b mk mv L) :
    ∃ o, (Instr.range t (.map (some b))).run P w = .ok (.pointer (some ⟨w.heap.size, 0, none⟩)) (w.alloc o) ∧ RangeAt (w.alloc o) b w.heap.size mk mv L L := by
  have hlt := h.lt
  obtain ⟨es, clock, hb, hs, hl⟩ := h
  refine ⟨_, run_range_map w t k e b es clock ht hb, es, clock, clock, #[], clock, ((heap_alloc w _).2 b hlt).trans hb, hs, hl, (heap_alloc w _).1, hs.1, Nat.le_refl _, Nat.le_refl _, ?_⟩
  have : (leftOf es #[]).toList = es.toList := by simp [leftOf]
  rw [this, hl]

theorem left_push {es : Array MapEntry} {seen : Array Nat} (hn : (es.toList.map (·.born)).Nodup) {x : MapEntry} {u v : List MapEntry} (h : (leftOf es seen).toList = u ++ x :: v) :
    (leftOf es (seen.push x.born)).toList = u ++ v := by
  have e1 : (leftOf es (seen.push x.born)).toList = (leftOf es seen).toList.filter (fun y => !(y.born == x.born)) := by
    unfold leftOf
    rw [Array.toList_filter, Array.toList_filter, List.filter_filter]
    refine List.filter_congr (fun y _ => ?_)
    rw [contains_push]
    cases seen.contains y.born <;> cases (y.born == x.born) <;> rfl
  have hs : ((leftOf es seen).toList.map (·.born)).Nodup := by
    unfold leftOf
    rw [Array.toList_filter]
    exact ((List.filter_sublist).map _).nodup hn
  rw [e1]
  rw [h] at hs ⊢
  rw [List.map_append, List.map_cons] at hs
  have hd := List.nodup_append.1 hs
  have hc := List.nodup_cons.1 hd.2.1
  rw [List.filter_append, List.filter_cons, if_neg (by simp)]
  have f1 : u.filter (fun y => !(y.born == x.born)) = u := List.filter_eq_self.2 (fun y hy => by
    have := hd.2.2 y.born (List.mem_map.2 ⟨y, hy, rfl⟩) x.born (by simp)
    simpa using this)
  have f2 : v.filter (fun y => !(y.born == x.born)) = v := List.filter_eq_self.2 (fun y hy => by
    have : y.born ≠ x.born := fun e => hc.1 (List.mem_map.2 ⟨y, hy, e⟩)
    simpa using this)
  rw [f1, f2]

theorem split_map {γ δ ε : Type} {f : γ → ε} {g : δ → ε} {l : List γ} {m : List δ} (h : l.map f = m.map g) {x : γ} {u v : List γ} (hl : l = u ++ x :: v) :
    ∃ u' y v', m = u' ++ y :: v' ∧ f x = g y ∧ (u ++ v).map f = (u' ++ v').map g := by
  subst hl
  rw [List.map_append, List.map_cons] at h
  obtain ⟨u', r', rfl, h1, h2⟩ := List.map_eq_append_iff.1 h.symm
  obtain ⟨y, v', rfl, h3, h4⟩ := List.map_eq_cons_iff.1 h2
  exact ⟨u', y, v', rfl, h3.symm, by rw [List.map_append, List.map_append, h1, h4]⟩

theorem RangeAt.next (ty : TypeId) (h : RangeAt w b r mk mv L left) :
    (left = [] ∧ (Instr.next (.pointer (some ⟨r, 0, none⟩)) false ty).run P w = .ok (.tuple #[.bool false]) w) ∨
    ∃ u p v w', left = u ++ p :: v ∧ (Instr.next (.pointer (some ⟨r, 0, none⟩)) false ty).run P w = .ok (.tuple #[.bool true, mk p.1, mv p.2]) w' ∧ RangeAt w' b r mk mv L (u ++ v) ∧
      w.grownBy w' (some r) ∧ w'.heap.size = w.heap.size ∧ (Instr.entry (.pointer (some ⟨r, 0, none⟩))).run P w' = .ok (.tuple #[mk p.1, mv p.2]) w' := by
  have hne := h.ne
  obtain ⟨es, clock, since, seen, c0, hb, hs, hl, hr, hold, hsc, hsk, hleft⟩ := h
  rcases run_next_at (P := P) w ty r b since c0 seen es clock hr hb hold hsc with ⟨h0, hrun⟩ | ⟨e, he, w1, hal, hrun⟩
  · refine Or.inl ⟨?_, hrun⟩
    have : (leftOf es seen).toList = [] := by
      have : (leftOf es seen).toList.length = 0 := by simpa using h0
      exact List.eq_nil_of_length_eq_zero this
    rw [this] at hleft
    exact (List.map_eq_nil_iff.1 hleft.symm)
  · obtain ⟨hem, hes⟩ := mem_left he
    obtain ⟨u, v, huv⟩ := List.append_of_mem he
    obtain ⟨u', p, v', hlf, hp, hrest⟩ := split_map hleft huv
    have hk : e.key = mk p.1 := congrArg Prod.fst hp
    have hv : e.val = mv p.2 := congrArg Prod.snd hp
    have hr1 : w1.heap[r]? = some (.mapIter (some b) since seen c0) := by rcases hal with rfl | rfl <;> exact hr
    have hb1 : w1.heap[b]? = some (.map es clock) := by rcases hal with rfl | rfl <;> exact hb
    have hset := heap_set (o' := .mapIter (some b) since (seen.push e.born) clock) hr1
    have hb' : (setBlock w1 r (.mapIter (some b) since (seen.push e.born) clock)).heap[b]? = some (.map es clock) := (hset.2 b (fun e1 => hne e1.symm)).trans hb1
    rw [hk, hv] at hrun
    refine Or.inr ⟨u', p, v', _, hlf, hrun, ⟨es, clock, since, seen.push e.born, clock, hb', hs, hl, hset.1, hold, hsk, hsk, ?_⟩, ?_, ?_, ?_⟩
    · rw [left_push hs.2.1 huv]
      exact hrest
    · rcases hal with rfl | rfl <;> exact ⟨rfl, rfl, rfl, by simp [setBlock], fun i _ hi => hset.2 i (fun e1 => hi (by rw [e1]))⟩
    · rcases hal with rfl | rfl <;> simp [setBlock]
    · rw [← hk, ← hv]
      exact run_entry_at _ r b since seen es clock e hset.1 hb' hem hs.2.1
/-- nothing is left of no map -/
theorem next_nil (ty : TypeId) {n : Nat} (h : w.heap[r]? = some (.mapIter none 0 #[] n)) : (Instr.next (.pointer (some ⟨r, 0, none⟩)) false ty).run P w = .ok (.tuple #[.bool false]) w := by
  simp [Instr.next, getObj, Sem.run, h, Result.andThen]
theorem range_nil (ht : P.underlying t = some (.map k e)) : (Instr.range t (.map none)).run P w = .ok (.pointer (some ⟨w.heap.size, 0, none⟩)) (w.alloc (.mapIter none 0 #[] 0)) := by
  simp [Instr.range, run_underlying ht, Result.andThen, run_newObj]
end
end Go.Proofs.Ytgenfbpaooeofaa.M
