/- What an argument's data says in the print's words: a reading of a type of whole numbers, bools, strings, slices and structs gives a value of that kind; no condition but the type's own shape. -/
import Derived.Test.YtlobedghenflfaaWWords
import Derived.ProofKit
import Derived.OpenShut
import Derived.ShutString
import Derived.ChangeOld
namespace Go.Proofs.YtlobedghenflfaaW.Read
open Go.RowKit Go.ChangeShapes Go.WideShapes Go.Proofs.YtlobedghenflfaaW.PrintWords

def Tells (P : Program) (t : TypeId) {α : Type} (d : Kd α) (G : α → Prop) : Prop :=
  ∀ (H : Type) (enc : TypeId × Value → H) (w : World) (base : Nat) (spare : Nat → Bool) (held : Bool) (n : Nat) (cs : List Value) (x : DataW H × List MemPlace),
    DataW.trod enc P w base spare held n t cs = some x → ∃ a, d.K w a cs ∧ G a

def TellsF (P : Program) (fs : List Field) (off : Nat) {α : Type} (d : Kd α) (G : α → Prop) : Prop :=
  ∀ (H : Type) (enc : TypeId × Value → H) (w : World) (base : Nat) (spare : Nat → Bool) (held : Bool) (n : Nat) (cs : List Value),
    cs.length = off + d.sz → (∀ f, f ∈ fs → ∃ y, DataW.trod enc P w base spare held n f.type ((cs.drop f.offset).take (P.cellsOf f.type)) = some y) → ∃ a, d.K w a (cs.drop off) ∧ G a

theorem Tells.int {P : Program} {t : TypeId} {k : IntKind} (ht : P.underlying t = some (.int k)) : Tells P t (Kd.int k) (fun n => (Lit.int k n).wf = true) := by
  intro H enc w base spare held n cs x h
  obtain ⟨m, rfl, _, hw⟩ := DataW.trod_int ht h
  exact ⟨m, rfl, hw⟩
theorem Tells.bool {P : Program} {t : TypeId} (ht : P.underlying t = some .bool) : Tells P t Kd.bool (fun _ => True) := by
  intro H enc w base spare held n cs x h
  obtain ⟨m, rfl, _⟩ := DataW.trod_bool ht h
  exact ⟨m, rfl, trivial⟩
theorem Tells.string {P : Program} {t : TypeId} (ht : P.underlying t = some .string) : Tells P t Kd.string (fun s => s.size ≤ maxLen) := by
  intro H enc w base spare held n cs x h
  obtain ⟨m, rfl, _, hm⟩ := DataW.trod_string ht h
  exact ⟨m, rfl, hm⟩

theorem list_of {α : Type} (R : Nat → α → Prop) : ∀ n : Nat, (∀ i, i < n → ∃ a, R i a) → ∃ xs : List α, xs.length = n ∧ ∀ i a, xs[i]? = some a → R i a := by
  intro n
  induction n with
  | zero => exact fun _ => ⟨[], rfl, fun i a h => by simp at h⟩
  | succ n ih =>
    intro h
    obtain ⟨xs, hl, hx⟩ := ih (fun i hi => h i (by omega))
    obtain ⟨a, ha⟩ := h n (by omega)
    refine ⟨xs ++ [a], by simp [hl], fun i b hb => ?_⟩
    rcases Nat.lt_or_ge i n with hi | hi
    · rw [List.getElem?_append_left (by omega)] at hb
      exact hx i b hb
    · have hi' : i < (xs ++ [a]).length := (List.getElem?_eq_some_iff.1 hb).1
      obtain rfl : i = n := by simp [hl] at hi'; omega
      rw [List.getElem?_append_right (by omega), hl, Nat.sub_self] at hb
      obtain rfl : a = b := by simpa using hb
      exact ha
theorem add_add (a : Addr) (i j : Nat) : (a.add i).add j = a.add (i + j) := by
  unfold Addr.add
  by_cases h1 : i = 0 <;> by_cases h2 : j = 0 <;> simp [h1, h2, Nat.add_assoc]

theorem Tells.slice {P : Program} {t e : TypeId} {α : Type} {d : Kd α} {G : α → Prop} (ht : P.underlying t = some (.slice e)) (hs : P.cellsOf e = d.sz) (hd : Tells P e d G) :
    Tells P t (Kd.slice e d) (fun xs => ∀ x, x ∈ xs → G x) := by
  intro H enc w base spare held n cs x h
  rcases DataW.trod_slice ht h with ⟨rfl, _⟩ | ⟨a, len, cap, elems, rest, n', _, rfl, _, hb, hl, hm, hlen, hel, _, _⟩
  · exact ⟨[], ⟨none, 0, rfl, Nat.le_refl _, rfl, by simp, fun h => absurd h (by simp)⟩, fun x hx => by simp at hx⟩
  · obtain ⟨xs, hxl, hx⟩ := list_of (fun i y => ∃ c, c.length = d.sz ∧ d.K w y c ∧ G y ∧ ∀ j u, c[j]? = some u → w.cell? (a.add (i * d.sz + j)) = some u) len (fun i hi => by
      have h1 := hel i hi
      rw [List.getElem?_eq_getElem (by omega), Option.bind_eq_some_iff] at h1
      obtain ⟨c, hc, hy⟩ := h1
      obtain ⟨y, hK, hG⟩ := hd H enc w base spare held n' c _ hy
      obtain ⟨_, hcl, hcell⟩ := World.cells?_some hc
      refine ⟨y, c, by rw [hcl, hs], hK, hG, fun j u hu => ?_⟩
      have hj : j < P.cellsOf e := by rw [← hcl]; exact (List.getElem?_eq_some_iff.1 hu).1
      have := hcell j hj
      rw [hs, add_add] at this
      rw [this, hu])
    refine ⟨xs, ⟨some a, cap, by rw [hxl], by omega, rfl, by rw [hxl]; have : cap ≤ 9223372036854775807 := hm; omega, fun _ => ⟨a, rfl, fun j p hp => ?_⟩⟩, fun y hy => ?_⟩
    · obtain ⟨c, h1, h2, _, h4⟩ := hx j p hp
      exact ⟨c, h1, h2, h4⟩
    · obtain ⟨i, hi⟩ := List.getElem?_of_mem hy
      obtain ⟨_, _, _, h3, _⟩ := hx i y hi
      exact h3

theorem TellsF.one {P : Program} {f : Field} {off : Nat} {α : Type} {d : Kd α} {G : α → Prop} (ho : f.offset = off) (hs : P.cellsOf f.type = d.sz) (h : Tells P f.type d G) : TellsF P [f] off d G := by
  intro H enc w base spare held n cs hl hf
  obtain ⟨y, hy⟩ := hf f (List.mem_singleton.2 rfl)
  rw [ho, hs, List.take_of_length_le (by rw [List.length_drop]; omega)] at hy
  exact h H enc w base spare held n _ y hy
theorem TellsF.cons {P : Program} {f : Field} {fs : List Field} {off : Nat} {α β : Type} {a : Kd α} {b : Kd β} {G : α → Prop} {G' : β → Prop} (ho : f.offset = off) (hs : P.cellsOf f.type = a.sz) (h : Tells P f.type a G) (k : TellsF P fs (off + a.sz) b G') :
    TellsF P (f :: fs) off (Kd.pair a b) (fun x => G x.1 ∧ G' x.2) := by
  intro H enc w base spare held n cs hl hf
  have hl' : cs.length = off + (a.sz + b.sz) := hl
  obtain ⟨y, hy⟩ := hf f List.mem_cons_self
  rw [ho, hs] at hy
  obtain ⟨x1, h1, g1⟩ := h H enc w base spare held n _ y hy
  obtain ⟨x2, h2, g2⟩ := k H enc w base spare held n cs (by omega) (fun f' hf' => hf f' (List.mem_cons_of_mem _ hf'))
  refine ⟨(x1, x2), ⟨_, _, ?_, h1, h2⟩, g1, g2⟩
  rw [← List.drop_drop, List.take_append_drop]
theorem Tells.struct {P : Program} {t : TypeId} {fs : Array Field} {α : Type} {d : Kd α} {G : α → Prop} (ht : P.underlying t = some (.struct fs)) (hc : P.cellsOf t = d.sz) (h : TellsF P fs.toList 0 d G) : Tells P t d G := by
  intro H enc w base spare held n cs x hx
  obtain ⟨xs, n', _, _, hl, hlen, hf⟩ := DataW.trod_struct ht hx
  have := h H enc w base spare held n' cs (by omega) (fun f hfm => by
    obtain ⟨i, hi⟩ := List.getElem?_of_mem hfm
    have hi' : fs[i]? = some f := by simpa using hi
    have h1 := hf i f hi'
    have : i < xs.length := by rw [hlen]; exact (Array.getElem?_eq_some_iff.1 hi').1
    exact ⟨xs[i], by rw [h1, List.getElem?_eq_getElem this]⟩)
  simpa using this
theorem Tells.iso {P : Program} {t : TypeId} {α β : Type} {d : Kd α} {G : α → Prop} (f : β → α) (g : α → β) (hg : ∀ x, f (g x) = x) (h : Tells P t d G) : Tells P t (Kd.iso d f) (fun y => G (f y)) := by
  intro H enc w base spare held n cs x hx
  obtain ⟨a, hK, hG⟩ := h H enc w base spare held n cs x hx
  exact ⟨g a, by show d.K w (f (g a)) cs; rw [hg]; exact hK, by show G (f (g a)); rw [hg]; exact hG⟩
theorem Tells.imp {P : Program} {t : TypeId} {α : Type} {d : Kd α} {G G' : α → Prop} (h : Tells P t d G) (k : ∀ a, G a → G' a) : Tells P t d G' := by
  intro H enc w base spare held n cs x hx
  obtain ⟨a, hK, hG⟩ := h H enc w base spare held n cs x hx
  exact ⟨a, hK, k a hG⟩

/-- An argument that is a struct. -/
theorem Tells.agg {P : Program} {t : TypeId} {fs : Array Field} {α : Type} {d : Kd α} {G : α → Prop} (h : Tells P t d G) (ht : P.underlying t = some (.struct fs)) {H : Type} {enc : TypeId × Value → H} {w : World} {r : Reach} {b0 base : Nat} {spare : Nat → Bool} {held : Bool} {v : Value} {dd : DataW H} {p : List MemPlace}
    (hv : Value.okWide P w r b0 t v) (hd : DataW.Trod enc P w base spare held t v dd p) : ∃ a cs, v = .agg cs ∧ d.K w a cs.toList ∧ G a := by
  obtain ⟨cs, rfl, _⟩ := okWide_struct ht hv
  obtain ⟨n, hn⟩ := hd
  obtain ⟨a, hK, hG⟩ := h H enc w base spare held n _ _ hn
  exact ⟨a, cs, rfl, hK, hG⟩
/-- An argument that is a slice. -/
theorem Tells.row {P : Program} {t e : TypeId} {α : Type} {d : Kd α} {G : List α → Prop} (h : Tells P t (Kd.slice e d) G) (ht : P.underlying t = some (.slice e)) {H : Type} {enc : TypeId × Value → H} {w : World} {r : Reach} {b0 base : Nat} {spare : Nat → Bool} {held : Bool} {v : Value} {dd : DataW H} {p : List MemPlace}
    (hv : Value.okWide P w r b0 t v) (hd : DataW.Trod enc P w base spare held t v dd p) : ∃ A c xs, v = .slice A xs.length c ∧ xs.length ≤ c ∧ d.C w A xs.length xs ∧ G xs := by
  obtain ⟨A, len, cap, rfl⟩ := okWide_slice ht hv
  obtain ⟨n, hn⟩ := hd
  obtain ⟨xs, ⟨A', c, he, hl, hC⟩, hG⟩ := h H enc w base spare held n _ _ hn
  have he' : Value.slice A len cap = .slice A' xs.length c := by simpa [Value.cells] using he
  exact ⟨A', c, xs, he', hl, hC, hG⟩
/-- The places of an argument lie in the world. -/
theorem places_lt {P : Program} {t : TypeId} {H : Type} {enc : TypeId × Value → H} {w : World} {base : Nat} {spare : Nat → Bool} {held : Bool} {v : Value} {dd : DataW H} {p : List MemPlace}
    (hd : DataW.Trod enc P w base spare held t v dd p) : ∀ x, x ∈ p → x.block < w.heap.size := by
  obtain ⟨n, hn⟩ := hd
  exact DataW.trod_lt n _ _ _ hn
theorem wf_i64_bd {n : Int} (h : (Lit.int .i64 n).wf = true) : -9223372036854775808 ≤ n ∧ n ≤ 9223372036854775807 := by
  have := bounds_i64 h; omega
theorem wf_u64_bd {n : Int} (h : (Lit.int .u64 n).wf = true) : 0 ≤ n ∧ n ≤ 18446744073709551615 := by
  have := bounds_u64 h; omega
end Go.Proofs.YtlobedghenflfaaW.Read
