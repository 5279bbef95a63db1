/- Plain Lean functions and their contracts over the translation, written by a program of this session (myprint.py, over the kit's print); no condition but each contract's own. -/
import Derived.Test.YtgenfbpaooeofaaPx0
import Derived.Test.YtgenfbpaooeofaaPx3
import Derived.Test.YtgenfbpaooeofaaPx4
namespace Go.Proofs.Ytgenfbpaooeofaa.P
open Go.RowKit Go.Proofs.YtgenfbpaooeofaaW.PrintWords Go.Proofs.YtgenfbpaooeofaaW.PrintLast Go.Proofs.YtgenfbpaooeofaaW.PrintMore
attribute [local go_sem] max2_int min2_int max_two min_two max_three min_three max_four min_four   -- for this text's walks alone
set_option linter.unusedVariables false
set_option linter.unusedSimpArgs false

/-! ### index_Of: function 10, by hand -/
-- making: yes
section
open Go.Proofs.Ytgenfbpaooeofaa.M
instance : DecidableEq S26 := fun a b => if h : a.f0 = b.f0 ∧ a.f1 = b.f1 then .isTrue (by cases a; cases b; cases h; simp_all) else .isFalse (fun e => h (by rw [e]; exact ⟨rfl, rfl⟩))
instance : DecidableEq S57 := fun a b => if h : a.f0 = b.f0 ∧ a.f1 = b.f1 ∧ a.f2 = b.f2 then .isTrue (by cases a; cases b; simp_all) else .isFalse (fun e => h (by rw [e]; exact ⟨rfl, rfl, rfl⟩))

def insV (x : S26) : Value := .agg #[.int .i64 x.f0, .int .i64 x.f1]
def keyV (x : S57) : Value := .agg #[.bool x.f0, .int .i64 x.f1, .bool x.f2]
def knV (x : S29) : Value := .agg #[.int .i64 x.f0.f0, .int .i64 x.f0.f1, .int .i64 x.f1.f0, .int .i64 x.f1.f1, .int .i64 x.f1.f2, .int .i64 x.f1.f3, .int .i64 x.f1.f4, .string x.f1.f5, .int .i64 x.f2]
def intV (x : Int) : Value := .int .i64 x
def mapV (r : Nat) : Value := .map (some r)

theorem eqInst (d : Nat) (w : World) (x0 y0 x1 y1 : Int) :
    (Op.equalIn (d + 2) 26 (.agg #[.int .i64 x0, .int .i64 x1]) (.agg #[.int .i64 y0, .int .i64 y1])).run Try.prog w = .ok (x0 == y0 && (x1 == y1)) w := by
  refine eqA_of Try.underlying26 (by kernel_rfl) ?_
  refine eqf_cons (by rfl) (by go_simp; rfl) (by go_simp; rfl) (by go_simp) ?_
  exact eqf_last (by rfl) (by go_simp; rfl) (by go_simp; rfl) (by go_simp)
theorem eqKey (d : Nat) (w : World) (x0 y0 : Bool) (x1 y1 : Int) (x2 y2 : Bool) :
    (Op.equalIn (d + 2) 57 (.agg #[.bool x0, .int .i64 x1, .bool x2]) (.agg #[.bool y0, .int .i64 y1, .bool y2])).run Try.prog w = .ok (x0 == y0 && (x1 == y1 && (x2 == y2))) w := by
  refine eqA_of Try.underlying57 (by kernel_rfl) ?_
  refine eqf_cons (by rfl) (by go_simp; rfl) (by go_simp; rfl) (by go_simp) ?_
  refine eqf_cons (by rfl) (by go_simp; rfl) (by go_simp; rfl) (by go_simp) ?_
  exact eqf_last (by rfl) (by go_simp; rfl) (by go_simp; rfl) (by go_simp)

theorem asking {P : Program} {k : TypeId} {α : Type} [DecidableEq α] {mk : α → Value} (inj : ∀ {a b : α}, mk a = mk b → a = b) (heq : ∀ (w : World) (a b : α), (Op.equal k (mk a) (mk b)).run P w = .ok (decide (a = b)) w) (w : World) (a : α) :
    ∀ (es : List MapEntry) (i : Nat), (∀ e ∈ es, ∃ b, e.key = mk b) →
    ((Instr.findAsking k (mk a) es i).run P w = .ok none w ∧ ∀ e ∈ es, e.key ≠ mk a) ∨ ∃ j e, (Instr.findAsking k (mk a) es i).run P w = .ok (some (i + j, e.val)) w ∧ es[j]? = some e ∧ e.key = mk a
  | [], i, _ => Or.inl ⟨rfl, by simp⟩
  | e :: es, i, h => by
    obtain ⟨b, hb⟩ := h e (.head _)
    by_cases hab : a = b
    · subst hab
      refine Or.inr ⟨0, e, ?_, rfl, hb⟩
      simp [Instr.findAsking, hb, heq, Result.andThen]
    · rcases asking inj heq w a es (i + 1) (fun x hx => h x (.tail _ hx)) with ⟨h1, h2⟩ | ⟨j, e', h1, h2, h3⟩
      · refine Or.inl ⟨?_, fun x hx => ?_⟩
        · simp [Instr.findAsking, hb, heq, Result.andThen, hab, h1]
        · cases hx with
          | head => rw [hb]; exact fun q => hab (inj q).symm
          | tail _ hx => exact h2 x hx
      · refine Or.inr ⟨j + 1, e', ?_, by simpa using h2, h3⟩
        simp [Instr.findAsking, hb, heq, Result.andThen, hab, h1]
        omega
theorem keyK_of {P : Program} {k : TypeId} {α : Type} [DecidableEq α] {mk : α → Value} {d : TypeDesc} (hu : P.underlying k = some d) (inj : ∀ {a b : α}, mk a = mk b → a = b) (check : ∀ (w : World) (em : Bool) (a : α), (Instr.checkKey em 10000 k (mk a)).run P w = .ok () w)
    (heq : ∀ (w : World) (a b : α), (Op.equal k (mk a) (mk b)).run P w = .ok (decide (a = b)) w) (hsn : ∀ a b : α, Instr.sameNow d (mk a) (mk b) = none) (hsb : ∀ a : α, Instr.sameBits 10000 (mk a) (mk a) = true) : KeyK P k mk where
  inj := inj
  check := check
  find w a es h := by
    have h0 := asking inj heq w a es 0 h
    cases es with
    | nil => exact Or.inl ⟨by simp [Instr.findKey, run_underlying hu, Result.andThen, Instr.findNow], by simp⟩
    | cons e es =>
      obtain ⟨b, hb⟩ := h e (.head _)
      have e1 : (Instr.findKey k (mk a) (e :: es)).run P w = (Instr.findAsking k (mk a) (e :: es) 0).run P w := by
        simp [Instr.findKey, run_underlying hu, Result.andThen, Instr.findNow, hb, hsn]
      rw [e1]
      simpa using h0
  stays w a := by simp [Instr.keyThatStays, hsb]
theorem insK : KeyK Try.prog 26 insV := by
  refine keyK_of Try.underlying26 (fun {a b} h => ?_) (fun w em a => ?_) (fun w a b => ?_) (fun _ _ => rfl) (fun a => ?_)
  · cases a; cases b; simp [insV] at h; simp [h]
  · cases em <;> rfl
  · show (Op.equalIn (9998 + 2) _ _ _).run _ _ = _
    unfold insV
    rw [eqInst]
    congr 1
    by_cases h : a = b
    · subst h; simp
    · rw [decide_eq_false h]
      by_cases h1 : a.f0 = b.f0 <;> by_cases h2 : a.f1 = b.f1 <;> simp [h1, h2]
      exact h (by cases a; cases b; simp_all)
  · simp [insV, Instr.sameBits]
theorem keyK : KeyK Try.prog 57 keyV := by
  refine keyK_of Try.underlying57 (fun {a b} h => ?_) (fun w em a => ?_) (fun w a b => ?_) (fun _ _ => rfl) (fun a => ?_)
  · cases a; cases b; simp [keyV] at h; simp [h]
  · cases em <;> rfl
  · show (Op.equalIn (9998 + 2) _ _ _).run _ _ = _
    unfold keyV
    rw [eqKey]
    congr 1
    by_cases h : a = b
    · subst h; simp
    · rw [decide_eq_false h]
      by_cases h1 : a.f0 = b.f0 <;> by_cases h2 : a.f1 = b.f1 <;> by_cases h3 : a.f2 = b.f2 <;> simp [h1, h2, h3]
      exact h (by cases a; cases b; simp_all)
  · simp [keyV, Instr.sameBits]

/-- nothing has turned but the blocks of 'own' and new ones -/
structure Kept (own : Nat → Prop) (w w' : World) : Prop where
  os : w'.os = w.os
  tape : w'.tape = w.tape
  output : w'.output = w.output
  size : w.heap.size ≤ w'.heap.size
  block : ∀ i, i < w.heap.size → ¬ own i → w'.heap[i]? = w.heap[i]?
theorem Kept.refl (own : Nat → Prop) (w : World) : Kept own w w := ⟨rfl, rfl, rfl, Nat.le_refl _, fun _ _ _ => rfl⟩
theorem Kept.trans {own own' : Nat → Prop} {a b c : World} (h : Kept own a b) (k : Kept own' b c) (ho : ∀ i, own' i → own i ∨ a.heap.size ≤ i) : Kept own a c :=
  ⟨k.os.trans h.os, k.tape.trans h.tape, k.output.trans h.output, Nat.le_trans h.size k.size, fun i hi hn => (k.block i (Nat.lt_of_lt_of_le hi h.size) (fun e => by
    rcases ho i e with h1 | h1
    · exact hn h1
    · omega)).trans (h.block i hi hn)⟩
theorem Kept.of_below {own : Nat → Prop} {a b : World} (h : Below a.heap.size a b) : Kept own a b := ⟨h.os, h.tape, h.output, h.size, fun i hi _ => h.block i hi⟩
theorem Kept.below {own : Nat → Prop} {a b : World} {B : Nat} (h : Kept own a b) (hB : B ≤ a.heap.size) (ho : ∀ i, own i → B ≤ i) : Below B a b := ⟨h.os, h.tape, h.output, h.size, fun i hi => h.block i (by omega) (fun e => by have := ho i e; omega)⟩
theorem Kept.mono {own own' : Nat → Prop} {a b : World} (h : Kept own a b) (ho : ∀ i, own i → own' i) : Kept own' a b := ⟨h.os, h.tape, h.output, h.size, fun i hi hn => h.block i hi (fun e => hn (ho i e))⟩

/-- the blocks of an index: its own one, its two maps, and the maps of the rows; what is known (D), and the numbers of those with a key (G) -/
structure IxIn (w : World) (g b1 b2 : Nat) (W : List (S57 × Nat)) (n : Int) (D : List (S26 × S29)) (G : S57 → List (S26 × Int)) : Prop where
  head : w.heap[g]? = some (.cells #[.int .i64 n, .map (some b1), .map (some b2)] 52 (0, 0))
  all : MapAt w b1 insV knV D
  whr : MapAt w b2 keyV mapV W
  ne : b1 ≠ b2
  rows : ∀ p, p ∈ W → p.2 ≠ b1 ∧ p.2 ≠ b2 ∧ MapAt w p.2 insV intV (G p.1)
  apart : (W.map (·.2)).Nodup
  noRow : ∀ K, (∀ p, p ∈ W → p.1 ≠ K) → G K = []
def IxOwn (g b1 b2 : Nat) (W : List (S57 × Nat)) (i : Nat) : Prop := i = g ∨ i = b1 ∨ i = b2 ∨ ∃ p, p ∈ W ∧ p.2 = i
def IxAt (w : World) (g : Nat) (own : Nat → Prop) (n : Int) (D : List (S26 × S29)) (G : S57 → List (S26 × Int)) : Prop :=
  ∃ b1 b2 W, IxIn w g b1 b2 W n D G ∧ ∀ i, own i ↔ IxOwn g b1 b2 W i
theorem MapAt.notCells {α β : Type} {w : World} {b g : Nat} {mk : α → Value} {mv : β → Value} {L : List (α × β)} {cs : Array Value} {t : TypeId} {q : Nat × Nat} [DecidableEq α] (h : MapAt w b mk mv L) (hg : w.heap[g]? = some (.cells cs t q)) : b ≠ g := by
  obtain ⟨es, clock, hb, _⟩ := h
  intro e
  rw [e, hg] at hb
  cases hb
theorem IxIn.lt {w : World} {g b1 b2 : Nat} {W : List (S57 × Nat)} {n : Int} {D : List (S26 × S29)} {G : S57 → List (S26 × Int)} (h : IxIn w g b1 b2 W n D G) {i : Nat} (hi : IxOwn g b1 b2 W i) : i < w.heap.size := by
  rcases hi with rfl | rfl | rfl | ⟨p, hp, rfl⟩
  · exact (Array.getElem?_eq_some_iff.1 h.head).1
  · exact h.all.lt
  · exact h.whr.lt
  · exact (h.rows p hp).2.2.lt
theorem IxIn.of_blocks {w w' : World} {g b1 b2 : Nat} {W : List (S57 × Nat)} {n : Int} {D : List (S26 × S29)} {G : S57 → List (S26 × Int)} (h : IxIn w g b1 b2 W n D G) (e : ∀ i, IxOwn g b1 b2 W i → w'.heap[i]? = w.heap[i]?) : IxIn w' g b1 b2 W n D G :=
  ⟨(e g (Or.inl rfl)).trans h.head, h.all.of_block (e b1 (Or.inr (Or.inl rfl))), h.whr.of_block (e b2 (Or.inr (Or.inr (Or.inl rfl)))), h.ne,
    fun p hp => ⟨(h.rows p hp).1, (h.rows p hp).2.1, (h.rows p hp).2.2.of_block (e p.2 (Or.inr (Or.inr (Or.inr ⟨p, hp, rfl⟩))))⟩, h.apart, h.noRow⟩
theorem IxIn.below {w w' : World} {g b1 b2 : Nat} {W : List (S57 × Nat)} {n : Int} {D : List (S26 × S29)} {G : S57 → List (S26 × Int)} (h : IxIn w g b1 b2 W n D G) (e : Below w.heap.size w w') : IxIn w' g b1 b2 W n D G := h.of_blocks (fun i hi => e.block i (h.lt hi))
theorem IxAt.lt {w : World} {g : Nat} {own : Nat → Prop} {n : Int} {D : List (S26 × S29)} {G : S57 → List (S26 × Int)} (h : IxAt w g own n D G) {i : Nat} (hi : own i) : i < w.heap.size := by
  obtain ⟨b1, b2, W, h, ho⟩ := h
  exact h.lt ((ho i).1 hi)
theorem IxAt.kept {w w' : World} {g : Nat} {own own' : Nat → Prop} {n : Int} {D : List (S26 × S29)} {G : S57 → List (S26 × Int)} (h : IxAt w g own n D G) (k : Kept own' w w') (ho : ∀ i, own i → ¬ own' i) : IxAt w' g own n D G := by
  have hl : ∀ i, own i → i < w.heap.size := fun i hi => h.lt hi
  obtain ⟨b1, b2, W, h, hw⟩ := h
  exact ⟨b1, b2, W, h.of_blocks (fun i hi => k.block i (h.lt hi) (ho i ((hw i).2 hi))), hw⟩
theorem IxAt.below {w w' : World} {g : Nat} {own : Nat → Prop} {n : Int} {D : List (S26 × S29)} {G : S57 → List (S26 × Int)} (h : IxAt w g own n D G) (k : Below w.heap.size w w') : IxAt w' g own n D G :=
  h.kept (own' := fun _ => False) (Kept.of_below k) (fun _ _ h => h)
/-- the number of replicas -/
def bnd (n : Int) : Int := mn (mx n 1) 7


theorem run_makeMap0 {P : Program} (t : TypeId) (w : World) : (Instr.makeMap t none).run P w = .ok (.map (some w.heap.size)) (w.alloc (.map #[] 0)) := by
  simp [Instr.makeMap, run_newObj, Result.andThen]
attribute [local go_sem] max2_int min2_int run_makeMap0
theorem IxAt.new (w : World) (n : Int) : IxAt (((w.alloc (.map #[] 0)).alloc (.map #[] 0)).alloc (.cells #[.int .i64 n, .map (some w.heap.size), .map (some (w.heap.size + 1))] 52)) (w.heap.size + 2) (IxOwn (w.heap.size + 2) w.heap.size (w.heap.size + 1) []) n [] (fun _ => []) := by
  refine ⟨w.heap.size, w.heap.size + 1, [], ⟨?_, ?_, ?_, by omega, fun p hp => by simp at hp, by simp, fun _ _ => rfl⟩, fun i => Iff.rfl⟩
  · have := heap_alloc_new ((w.alloc (.map #[] 0)).alloc (.map #[] 0)) (.cells #[.int .i64 n, .map (some w.heap.size), .map (some (w.heap.size + 1))] 52)
    simpa using this
  · refine (MapAt.made w insV knV).of_block ?_
    rw [Below.heap_alloc _ _ _ (by simp; omega), Below.heap_alloc _ _ _ (by simp)]
  · have := MapAt.made (w.alloc (.map #[] 0)) keyV mapV
    have e : (w.alloc (.map #[] 0)).heap.size = w.heap.size + 1 := by simp
    rw [e] at this
    refine this.of_block ?_
    rw [Below.heap_alloc _ _ _ (by simp)]
set_option maxHeartbeats 8000000 in
set_option maxRecDepth 100000 in
theorem index_New.calls (n : Int) (w : World) : Calls Try.prog 13 #[.int .i64 n] w fun e w' => ∃ g own, e = .returned (.pointer (some ⟨g, 0, none⟩)) ∧ IxAt w' g own (bnd n) [] (fun _ => []) ∧ (∀ i, own i → w.heap.size ≤ i) ∧ Below w.heap.size w w' := by
  have hown : ∀ i, IxOwn (w.heap.size + 2) w.heap.size (w.heap.size + 1) [] i → w.heap.size ≤ i := by
    rintro i (rfl | rfl | rfl | ⟨p, hp, _⟩)
    · omega
    · omega
    · omega
    · simp at hp
  have hb : ∀ v : Value, Below w.heap.size w (((w.alloc (.map #[] 0)).alloc (.map #[] 0)).alloc (.cells #[v, .map (some w.heap.size), .map (some (w.heap.size + 1))] 52)) := fun v => below_alloc (below_alloc (below_alloc (Below.refl _ w) _) _) _
  have HH := Aside0.mk hown
  have HB := Aside0.mk hb
  clear hown hb
  go_enter Try.func13, Try.ntmps13
  go_wp2_with fail
  · go_ret
    exact ⟨_, rfl, _, by have e : bnd n = 1 := by (unfold bnd mn mx; omega)
                         rw [e]; exact IxAt.new w 1, HH.out, HB.out _⟩
  · go_ret
    exact ⟨_, rfl, _, by have e : bnd n = 7 := by (unfold bnd mn mx; omega)
                         rw [e]; exact IxAt.new w 7, HH.out, HB.out _⟩
  · go_ret
    exact ⟨_, rfl, _, by have e : bnd n = n := by (unfold bnd mn mx; omega)
                         rw [e]; exact IxAt.new w n, HH.out, HB.out _⟩
set_option maxHeartbeats 8000000 in
set_option maxRecDepth 100000 in
theorem index_Len.calls (g : Nat) (own : Nat → Prop) (n : Int) (D : List (S26 × S29)) (G : S57 → List (S26 × Int)) (w : World) (h : IxAt w g own n D G) :
    Calls Try.prog 17 #[.pointer (some ⟨g, 0, none⟩)] w fun e w' => e = .returned (.int .i64 (D.length : Int)) ∧ w' = w := by
  obtain ⟨b1, b2, W, h, ho⟩ := h
  have q0 := blk_cell h.head 1
  simp only [List.getElem?_toArray, List.getElem?_cons_zero, List.getElem?_cons_succ] at q0
  have q1 := fun ty => MapAt.len (P := Try.prog) (ty := ty) Try.underlying49 h.all
  clear h ho
  go_enter Try.func17, Try.ntmps17
  go_wp2_with fail
  go_ret
  exact ⟨rfl, rfl⟩
/-- may an instance be known? -/
def mayI (n : Int) (i : S26) : Bool := decide (1 ≤ i.f0) && decide (i.f0 ≤ n) && decide (1 ≤ i.f1) && decide (i.f1 ≤ 1048576)
set_option maxHeartbeats 8000000 in
set_option maxRecDepth 100000 in
theorem index_may.calls (g : Nat) (own : Nat → Prop) (n : Int) (D : List (S26 × S29)) (G : S57 → List (S26 × Int)) (x : S26) (w : World) (h : IxAt w g own n D G) :
    Calls Try.prog 26 #[.pointer (some ⟨g, 0, none⟩), insV x] w fun e w' => e = .returned (.bool (mayI n x)) ∧ Below w.heap.size w w' := by
  obtain ⟨b1, b2, W, h, ho⟩ := h
  have HD := Aside0.mk h.head
  clear h ho
  obtain ⟨x0, x1⟩ := x
  unfold insV
  have hg : g ≠ w.heap.size := Nat.ne_of_lt (blk_lt HD.out)
  have q1 : (w.alloc (.cells #[.int .i64 x0, .int .i64 x1] 26)).cell? ⟨g, 0, none⟩ = some (.int .i64 n) := blk_cell (blk_alloc HD.out _) 0
  have HB := Aside0.mk (below_alloc (Below.refl w.heap.size w) (.cells #[.int .i64 x0, .int .i64 x1] 26))
  by_cases h1 : 1 ≤ x0
  · have d1 : decide (1 ≤ x0) = true := decide_eq_true h1
    by_cases h2 : x0 ≤ n
    · have d2 : decide (x0 ≤ n) = true := decide_eq_true h2
      by_cases h3 : 1 ≤ x1
      · have d3 : decide (1 ≤ x1) = true := decide_eq_true h3
        go_enter Try.func26, Try.ntmps26
        go_wp2_with fail
        go_quiet (fail)
        go_wp2_with fail
        go_ret
        exact ⟨by simp only [mayI, d1, d2, d3, Bool.true_and]; rfl, pw_below_drewN HB.out _⟩
      · have d3 : decide (1 ≤ x1) = false := decide_eq_false h3
        go_enter Try.func26, Try.ntmps26
        go_wp2_with fail
        go_quiet (fail)
        go_wp2_with fail
        go_ret
        exact ⟨by simp only [mayI, d1, d2, d3, Bool.true_and, Bool.false_and]; rfl, pw_below_drewN HB.out _⟩
    · have d2 : decide (x0 ≤ n) = false := decide_eq_false h2
      go_enter Try.func26, Try.ntmps26
      go_wp2_with fail
      go_quiet (fail)
      go_wp2_with fail
      go_ret
      exact ⟨by simp only [mayI, d1, d2, Bool.true_and, Bool.false_and]; rfl, pw_below_drewN HB.out _⟩
  · have d1 : decide (1 ≤ x0) = false := decide_eq_false h1
    go_enter Try.func26, Try.ntmps26
    go_wp2_with fail
    go_quiet (fail)
    go_wp2_with fail
    go_ret
    exact ⟨by simp only [mayI, d1, Bool.false_and]; rfl, pw_below_drewN HB.out _⟩
end
section
open Go.Proofs.Ytgenfbpaooeofaa.M
/-- a command's keys -/
def kOf (c : S24) : List S57 := keysOf c.f0 c.f1 c.f2 c.f3 c.f4 c.f5
def delG (i : S26) (G : S57 → List (S26 × Int)) (K : S57) : S57 → List (S26 × Int) := fun K' => if K' = K then del (G K') i else G K'
def putG (i : S26) (s : Int) (G : S57 → List (S26 × Int)) (K : S57) : S57 → List (S26 × Int) := fun K' => if K' = K then put (G K') i s else G K'
def oldK (D : List (S26 × S29)) (i : S26) : S29 := (get D i).getD z29
def putP (n : Int) (D : List (S26 × S29)) (G : S57 → List (S26 × Int)) (k : S29) : List (S26 × S29) × (S57 → List (S26 × Int)) :=
  if mayI n k.f0 = true then (put D k.f0 k, (kOf k.f1).foldl (putG k.f0 k.f2) ((kOf (oldK D k.f0).f1).foldl (delG k.f0) G)) else (D, G)
theorem lookAll {w : World} {b1 : Nat} {D : List (S26 × S29)} (h : MapAt w b1 insV knV D) (i : S26) : (Instr.lookup 49 (.map (some b1)) (insV i) false).run Try.prog w = .ok (knV (oldK D i)) w := by
  have hz : (zeroValue 29).run Try.prog w = .ok (knV z29) w := by rfl
  have := h.lookup insK Try.underlying49 hz i
  rw [this]
  unfold oldK
  cases get D i <;> rfl
theorem lookRow {w : World} {b2 : Nat} {W : List (S57 × Nat)} (h : MapAt w b2 keyV mapV W) (K : S57) : (Instr.lookup 50 (.map (some b2)) (keyV K) false).run Try.prog w = .ok (.map (get W K)) w := by
  have hz : (zeroValue 58).run Try.prog w = .ok (.map none) w := by rfl
  have := h.lookup keyK Try.underlying50 hz K
  rw [this]
  cases get W K <;> rfl

theorem get_mem {α β : Type} [DecidableEq α] {L : List (α × β)} {a : α} {v : β} (h : get L a = some v) : (a, v) ∈ L := by
  unfold M.get at h
  cases hf : L.find? (fun p => p.1 = a) with
  | none => rw [hf] at h; cases h
  | some p =>
    rw [hf] at h
    have e : p.1 = a := by simpa using List.find?_some hf
    have e2 : p.2 = v := Option.some.inj h
    have := List.mem_of_find?_eq_some hf
    rw [← e, ← e2]
    exact this
theorem get_no {α β : Type} [DecidableEq α] {L : List (α × β)} {a : α} (h : get L a = none) : ∀ p ∈ L, p.1 ≠ a := by
  unfold M.get at h
  intro p hp
  have := List.find?_eq_none.1 (Option.map_eq_none_iff.1 h) p hp
  simpa using this
theorem inj_of_nodup {α β : Type} {L : List (α × β)} (h : (L.map (·.1)).Nodup) {p q : α × β} (hp : p ∈ L) (hq : q ∈ L) (e : p.1 = q.1) : p = q := by
  induction L with
  | nil => cases hp
  | cons x r ih =>
    rw [List.map_cons, List.nodup_cons] at h
    rcases List.mem_cons.1 hp with rfl | hp' <;> rcases List.mem_cons.1 hq with rfl | hq'
    · rfl
    · exact absurd (List.mem_map.2 ⟨q, hq', e.symm⟩) h.1
    · exact absurd (List.mem_map.2 ⟨p, hp', e⟩) h.1
    · exact ih h.2 hp' hq'
theorem inj_of_nodup2 {α β : Type} {L : List (α × β)} (h : (L.map (·.2)).Nodup) {p q : α × β} (hp : p ∈ L) (hq : q ∈ L) (e : p.2 = q.2) : p = q := by
  induction L with
  | nil => cases hp
  | cons x r ih =>
    rw [List.map_cons, List.nodup_cons] at h
    rcases List.mem_cons.1 hp with rfl | hp' <;> rcases List.mem_cons.1 hq with rfl | hq'
    · rfl
    · exact absurd (List.mem_map.2 ⟨q, hq', e.symm⟩) h.1
    · exact absurd (List.mem_map.2 ⟨p, hp', e⟩) h.1
    · exact ih h.2 hp' hq'
/-- a row has turned -/
theorem IxIn.turn {w w' : World} {g b1 b2 : Nat} {W : List (S57 × Nat)} {n : Int} {D : List (S26 × S29)} {G G' : S57 → List (S26 × Int)} (h : IxIn w g b1 b2 W n D G) {y : S57} {r : Nat} (hr : get W y = some r)
    (hM : MapAt w' r insV intV (G' y)) (hG : ∀ K, K ≠ y → G' K = G K) (hoth : ∀ j, j ≠ r → w'.heap[j]? = w.heap[j]?) : IxIn w' g b1 b2 W n D G' := by
  have hm := get_mem hr
  obtain ⟨h1, h2, h3⟩ := h.rows _ hm
  have hg : r ≠ g := MapAt.notCells h3 h.head
  refine ⟨(hoth g hg.symm).trans h.head, h.all.of_block (hoth _ (Ne.symm h1)), h.whr.of_block (hoth _ (Ne.symm h2)), h.ne, fun p hp => ?_, h.apart, fun K hK => ?_⟩
  · obtain ⟨q1, q2, q3⟩ := h.rows p hp
    refine ⟨q1, q2, ?_⟩
    by_cases e : p.1 = y
    · have := inj_of_nodup (h.whr.nodup keyK) hp hm e
      subst this
      exact hM
    · rw [hG _ e]
      refine q3.of_block (hoth _ (fun e2 => e ?_))
      rw [inj_of_nodup2 h.apart hp hm e2]
  · have : K ≠ y := fun e => hK _ hm e.symm
    rw [hG _ this]
    exact h.noRow K hK
theorem IxIn.turnAll {w w' : World} {g b1 b2 : Nat} {W : List (S57 × Nat)} {n : Int} {D D' : List (S26 × S29)} {G : S57 → List (S26 × Int)} (h : IxIn w g b1 b2 W n D G)
    (hM : MapAt w' b1 insV knV D') (hoth : ∀ j, j ≠ b1 → w'.heap[j]? = w.heap[j]?) : IxIn w' g b1 b2 W n D' G := by
  have hg : b1 ≠ g := MapAt.notCells h.all h.head
  exact ⟨(hoth g hg.symm).trans h.head, hM, h.whr.of_block (hoth _ (Ne.symm h.ne)), h.ne, fun p hp => ⟨(h.rows p hp).1, (h.rows p hp).2.1, (h.rows p hp).2.2.of_block (hoth _ (h.rows p hp).1)⟩, h.apart, h.noRow⟩
theorem put_new {α β : Type} [DecidableEq α] {L : List (α × β)} {a : α} (v : β) (h : M.get L a = none) : put L a v = L ++ [(a, v)] := by
  unfold put
  rw [if_neg]
  intro hc
  obtain ⟨p, hp, e⟩ := List.any_eq_true.1 hc
  exact get_no h p hp (by simpa using e)
theorem get_new {α β : Type} [DecidableEq α] {L : List (α × β)} {a : α} (v : β) (h : M.get L a = none) : M.get (L ++ [(a, v)]) a = some v := by
  unfold M.get at h ⊢
  rw [List.find?_append, Option.map_eq_none_iff.1 h]
  simp
/-- a row has been made -/
theorem IxIn.addRow {w w' : World} {g b1 b2 : Nat} {W : List (S57 × Nat)} {n : Int} {D : List (S26 × S29)} {G : S57 → List (S26 × Int)} (h : IxIn w g b1 b2 W n D G) {y : S57} {r : Nat} (hy : M.get W y = none) (hr : w.heap.size ≤ r)
    (hM : MapAt w' b2 keyV mapV (put W y r)) (hnew : MapAt w' r insV intV []) (hoth : ∀ j, j ≠ b2 → j < w.heap.size → w'.heap[j]? = w.heap[j]?) : IxIn w' g b1 b2 (W ++ [(y, r)]) n D G := by
  have l1 := h.all.lt
  have l2 := h.whr.lt
  have hg : b2 ≠ g := MapAt.notCells h.whr h.head
  refine ⟨(hoth g hg.symm (blk_lt h.head)).trans h.head, h.all.of_block (hoth _ h.ne l1), by rw [← put_new r hy]; exact hM, h.ne, fun p hp => ?_, ?_, fun K hK => h.noRow K (fun p hp => hK p (List.mem_append_left _ hp))⟩
  · rcases List.mem_append.1 hp with hp | hp
    · obtain ⟨q1, q2, q3⟩ := h.rows p hp
      exact ⟨q1, q2, q3.of_block (hoth _ q2 q3.lt)⟩
    · have : p = (y, r) := by simpa using hp
      subst this
      refine ⟨by show r ≠ b1; omega, by show r ≠ b2; omega, ?_⟩
      show MapAt w' r insV intV (G y)
      rw [h.noRow y (get_no hy)]
      exact hnew
  · rw [List.map_append, List.nodup_append]
    refine ⟨h.apart, by simp, ?_⟩
    intro a ha b hb
    obtain ⟨p, hp, rfl⟩ := List.mem_map.1 ha
    have : b = r := by simpa using hb
    subst this
    have := (h.rows p hp).2.2.lt
    omega
/-- only maps have turned -/
theorem R_maps {α : Type} {d : Kd α} {e : Nat} {w w1 : World} {base : Nat} {v : Value} {xs : List α} (h : d.R e w base (fun _ => True) v xs) (hm : ∀ (k : Nat) (cs : Array Value) (q : TypeId), w.heap[k]? = some (Obj.cells cs q (0, 0)) → w1.heap[k]? = w.heap[k]?) : d.R e w1 base (fun _ => True) v xs :=
  Kd.R_mono (Kd.R_move (Kd.R_bound h) (fun k hk => by obtain ⟨_, _, _, q, _, cells, hc⟩ := hk; exact hm k cells q hc)) (fun _ _ => trivial)
theorem eqlNil (w : World) : (binOp BinOp.eql 58 (.map none) (.map none)).run Try.prog w = .ok (.bool true) w := rfl
theorem eqlSome (w : World) (r : Nat) : (binOp BinOp.eql 58 (.map (some r)) (.map none)).run Try.prog w = .ok (.bool false) w := rfl
attribute [local go_sem] eqlNil eqlSome run_makeMap0
theorem delG_at (i : S26) (G : S57 → List (S26 × Int)) (y : S57) : delG i G y y = del (G y) i := by unfold delG; rw [if_pos rfl]
theorem delG_ne (i : S26) (G : S57 → List (S26 × Int)) (y : S57) (K : S57) (h : K ≠ y) : delG i G y K = G K := by unfold delG; rw [if_neg h]
theorem putG_at (i : S26) (s : Int) (G : S57 → List (S26 × Int)) (y : S57) : putG i s G y y = put (G y) i s := by unfold putG; rw [if_pos rfl]
theorem putG_ne (i : S26) (s : Int) (G : S57 → List (S26 × Int)) (y : S57) (K : S57) (h : K ≠ y) : putG i s G y K = G K := by unfold putG; rw [if_neg h]
theorem delG_none (i : S26) (G : S57 → List (S26 × Int)) (y : S57) (h : G y = []) : delG i G y = G := by
  funext K
  by_cases e : K = y
  · subst e; rw [delG_at, h]; rfl
  · exact delG_ne _ _ _ _ e
theorem foldl_take {α β : Type} (f : β → α → β) (b : β) (l : List α) (i : Nat) (h : i < l.length) (y : α) (hy : l[i]'h = y) : (l.take (i + 1)).foldl f b = f ((l.take i).foldl f b) y := by
  rw [List.take_succ_eq_append_getElem h, List.foldl_append, hy]; rfl
theorem Kept.new {own : Nat → Prop} {w0 w X : World} (h : Kept own w0 w) (k : Below w.heap.size w X) : Kept own w0 X := h.trans (own' := fun _ => False) (Kept.of_below k) (fun _ h => h.elim)
theorem R_up {α : Type} {d : Kd α} {e : Nat} {w w1 : World} {base : Nat} {v : Value} {xs : List α} (h : d.R e w base (fun _ => True) v xs) (hm : ∀ k, base ≤ k → k < w.heap.size → w1.heap[k]? = w.heap[k]?) : d.R e w1 base (fun _ => True) v xs :=
  Kd.R_mono (Kd.R_move (Kd.R_bound h) (fun k hk => hm k hk.2.1 hk.2.2.1)) (fun _ _ => trivial)
theorem rdK_at (l : List S57) (j : Nat) (h : j < l.length) : rd_T57 l (j : Int) = l[j] := by
  unfold rd_T57; simp [List.getD_eq_getElem?_getD, List.getElem?_eq_getElem h]
theorem fld29 (j0 j1 d0 d1 d2 d3 d4 : Int) (d5 : ByteArray) (q : Int) (w : World) : (Instr.field 29 (.agg #[.int .i64 j0, .int .i64 j1, .int .i64 d0, .int .i64 d1, .int .i64 d2, .int .i64 d3, .int .i64 d4, .string d5, .int .i64 q]) 1).run Try.prog w = .ok (.agg #[.int .i64 d0, .int .i64 d1, .int .i64 d2, .int .i64 d3, .int .i64 d4, .string d5]) w := rfl
attribute [local go_sem] fld29
set_option maxHeartbeats 8000000 in
set_option maxRecDepth 100000 in
theorem index_Put.calls (g : Nat) (own : Nat → Prop) (n : Int) (D : List (S26 × S29)) (G : S57 → List (S26 × Int)) (k : S29) (w : World) (h : IxAt w g own n D G) :
    Calls Try.prog 14 #[.pointer (some ⟨g, 0, none⟩), knV k] w fun e w' => e = .returned (.tuple #[]) ∧ ∃ own', IxAt w' g own' n (putP n D G k).1 (putP n D G k).2 ∧ (∀ i, own i → own' i) ∧ (∀ i, own' i → own i ∨ w.heap.size ≤ i) ∧ Kept own w w' := by
  have hl : ∀ {i}, own i → i < w.heap.size := fun hi => h.lt hi
  obtain ⟨P, hP⟩ : ∃ P, putP n D G k = P := ⟨_, rfl⟩
  obtain ⟨D', G'⟩ := P
  rw [hP]
  have HP := Aside0.mk hP
  clear hP
  have HL := Aside0.mk @hl
  have HX := Aside0.mk h
  clear h hl
  obtain ⟨⟨i0, i1⟩, ⟨c0, c1, c2, c3, c4, c5⟩, s⟩ := k
  have hblk : (w.alloc (.cells #[.int .i64 i0, .int .i64 i1, .int .i64 c0, .int .i64 c1, .int .i64 c2, .int .i64 c3, .int .i64 c4, .string c5, .int .i64 s] 29)).heap[w.heap.size]? = some (.cells #[.int .i64 i0, .int .i64 i1, .int .i64 c0, .int .i64 c1, .int .i64 c2, .int .i64 c3, .int .i64 c4, .string c5, .int .i64 s] 29 (0, 0)) := heap_alloc_new _ _
  have HK := Aside0.mk hblk
  clear hblk
  unfold knV
  go_enter Try.func14, Try.ntmps14
  go_wp2_with fail
  refine (index_may.calls g own n D G ⟨i0, i1⟩ _ (HX.out.below (Below.alloc (Below.refl _ _) (Nat.le_refl _) _))).mono ?_
  rintro e w1 ⟨rfl, hb1⟩
  have HB1 := Aside0.mk (below_step (below_alloc (Below.refl w.heap.size w) (.cells #[.int .i64 i0, .int .i64 i1, .int .i64 c0, .int .i64 c1, .int .i64 c2, .int .i64 c3, .int .i64 c4, .string c5, .int .i64 s] 29)) hb1)
  have HK1 := Aside0.mk (blk_below HK.out hb1)
  have HX1 := Aside0.mk (HX.out.below HB1.out)
  clear HK HX hb1
  by_cases hm : mayI n ⟨i0, i1⟩ = true
  · rw [hm]
    have hp := HP.out
    unfold putP at hp
    rw [if_pos hm] at hp
    have HP1 := Aside0.mk hp
    clear hp HP
    obtain ⟨b1, b2, W, hix, hown⟩ := HX1.out
    obtain ⟨o, ho⟩ : ∃ o, oldK D ⟨i0, i1⟩ = o := ⟨_, rfl⟩
    obtain ⟨⟨j0, j1⟩, ⟨d0, d1, d2, d3, d4, d5⟩, q⟩ := o
    have q0 := blk_cell hix.head 1
    have q1 := blk_cell HK1.out 0
    have q2 := blk_cell HK1.out 1
    simp only [List.getElem?_toArray, List.getElem?_cons_zero, List.getElem?_cons_succ] at q0 q1 q2
    go_wp2_with fail
    have hlk : ∀ m, (Instr.lookup 49 (.map (some b1)) (.agg #[.int .i64 i0, .int .i64 i1]) false).run Try.prog (w1.drewN m) = .ok (.agg #[.int .i64 j0, .int .i64 j1, .int .i64 d0, .int .i64 d1, .int .i64 d2, .int .i64 d3, .int .i64 d4, .string d5, .int .i64 q]) (w1.drewN m) := fun m => by
      have := lookAll (w := w1.drewN m) (hix.all.of_block rfl) ⟨i0, i1⟩
      rw [ho] at this
      exact this
    have hS : ∀ w', Below w1.heap.size w1 w' → w'.cell? ⟨g, 1, none⟩ = some (.map (some b1)) ∧ w'.cell? ⟨w.heap.size, 0, none⟩ = some (.int .i64 i0) ∧ w'.cell? ⟨w.heap.size, 1, none⟩ = some (.int .i64 i1) ∧
        (Instr.lookup 49 (.map (some b1)) (.agg #[.int .i64 i0, .int .i64 i1]) false).run Try.prog w' = .ok (.agg #[.int .i64 j0, .int .i64 j1, .int .i64 d0, .int .i64 d1, .int .i64 d2, .int .i64 d3, .int .i64 d4, .string d5, .int .i64 q]) w' := fun w' hb => by
      have e := lookAll (hix.below hb).all ⟨i0, i1⟩
      rw [ho] at e
      exact ⟨pw_cell_below hb q0, pw_cell_below hb q1, pw_cell_below hb q2, e⟩
    clear hlk
    go_region_held3 (fun w' => w'.cell? ⟨g, 1, none⟩ = some (.map (some b1)) ∧ w'.cell? ⟨w.heap.size, 0, none⟩ = some (.int .i64 i0) ∧ w'.cell? ⟨w.heap.size, 1, none⟩ = some (.int .i64 i1) ∧
        (Instr.lookup 49 (.map (some b1)) (.agg #[.int .i64 i0, .int .i64 i1]) false).run Try.prog w' = .ok (.agg #[.int .i64 j0, .int .i64 j1, .int .i64 d0, .int .i64 d1, .int .i64 d2, .int .i64 d3, .int .i64 d4, .string d5, .int .i64 q]) w')
      (first | exact hS _ hB2 | exact hS _ (below_drew (Below.refl _ _)))
      (first | (go_at_call 27; refine (keys_Of.calls _ _ _ _ _ _ _ _ (of_eq d0 d1 d2 d3 d4 d5)).mono ?_; rintro e w2 ⟨v2, rfl, hr2, hb2⟩; have hB2 := below_step (below_drew (Below.refl w1.heap.size w1)) hb2; obtain ⟨A2, cc2, rfl, hc2, hC2⟩ := Kd.R_reads hr2; clear hb2))
    have HR2 := Aside0.mk hr2
    have HC2 := Aside0.mk hC2
    have HB2 := Aside0.mk hB2
    have HI2 := Aside0.mk (hix.below hB2)
    have HK2 := Aside0.mk ((hB2.block _ (blk_lt HK1.out)).trans HK1.out)
    clear hr2 hC2 hS hB2 hix q0 q1 q2 HK1
    obtain ⟨l, hl⟩ : ∃ l, keysOf d0 d1 d2 d3 d4 d5 = l := ⟨_, rfl⟩
    rw [hl] at HR2 HC2 hc2 ⊢
    have hu57 := Try.underlying57
    have hu54 := Try.underlying54
    have hlen : l.length ≤ 9223372036854775807 := HC2.out.2.1
    rename_i hHeld_
    clear hHeld_
    go_wp2_with fail
    go_loopw [23] (fun v23 wr => ∃ i : Nat, i ≤ l.length ∧ v23 = .int .i64 i ∧ Aside0 (IxIn wr g b1 b2 W n D ((l.take i).foldl (delG ⟨i0, i1⟩) G)) ∧ Aside0 (Kept own w2 wr) ∧
      Aside0 (wr.heap[w.heap.size]? = some (.cells #[.int .i64 i0, .int .i64 i1, .int .i64 c0, .int .i64 c1, .int .i64 c2, .int .i64 c3, .int .i64 c4, .string c5, .int .i64 s] 29 (0, 0))) ∧
      Aside0 (Kd.R k57 57 wr w1.heap.size (fun _ => True) (.slice A2 l.length cc2) l)) (fun v23 _ => l.length - (intOf v23).toNat)
    case atStart => exact ⟨0, by omega, rfl, HI2, ⟨Kept.refl _ _⟩, HK2, HR2⟩
    case round =>
      obtain ⟨i, hi, rfl, HIr, HKe, HKr, HRr⟩ := hrel
      by_cases hlt : i < l.length
      · obtain ⟨ad', e0, hx0, hx1, hx2⟩ := at_T57 (Kd.R_reads' HRr.out).2.2 (i : Int) (by omega) (by omega)
        cases e0
        obtain ⟨y, hy⟩ : ∃ y, rd_T57 l (i : Int) = y := ⟨_, rfl⟩
        simp only [hy, Int.toNat_natCast] at hx0 hx1 hx2
        have HY : Aside0 (l[i]'hlt = y) := ⟨by rw [← hy, rdK_at l i hlt]⟩
        clear hy
        go_wp2_with fail
        have hnew := heap_alloc_new wr (.cells #[.bool y.f0, .int .i64 y.f1, .bool y.f2] 57)
        have hbX := below_alloc (Below.refl wr.heap.size wr) (.cells #[.bool y.f0, .int .i64 y.f1, .bool y.f2] 57)
        have hszX : (wr.alloc (.cells #[.bool y.f0, .int .i64 y.f1, .bool y.f2] 57)).heap.size = wr.heap.size + 1 := by simp
        generalize wr.alloc (.cells #[.bool y.f0, .int .i64 y.f1, .bool y.f2] 57) = X at hnew hbX hszX ⊢
        have hIX := HIr.out.below hbX
        have hKX := (hbX.block _ (blk_lt HKr.out)).trans HKr.out
        have hS : ∀ w', Below X.heap.size X w' → w'.cell? ⟨g, 2, none⟩ = some (.map (some b2)) ∧ w'.cell? ⟨wr.heap.size, 0, none⟩ = some (.bool y.f0) ∧ w'.cell? ⟨wr.heap.size, 1, none⟩ = some (.int .i64 y.f1) ∧ w'.cell? ⟨wr.heap.size, 2, none⟩ = some (.bool y.f2) ∧
            w'.cell? ⟨w.heap.size, 0, none⟩ = some (.int .i64 i0) ∧ w'.cell? ⟨w.heap.size, 1, none⟩ = some (.int .i64 i1) ∧ (Instr.lookup 50 (.map (some b2)) (.agg #[.bool y.f0, .int .i64 y.f1, .bool y.f2]) false).run Try.prog w' = .ok (.map (get W y)) w' := fun w' hb =>
          ⟨pw_cell_below hb (blk_cell hIX.head 2), pw_cell_below hb (blk_cell hnew 0), pw_cell_below hb (blk_cell hnew 1), pw_cell_below hb (blk_cell hnew 2), pw_cell_below hb (blk_cell hKX 0), pw_cell_below hb (blk_cell hKX 1), lookRow (hIX.below hb).whr y⟩
        cases hget : get W y with
        | none =>
          rw [hget] at hS
          have hdel := fun (w : World) (ty : TypeId) => delete_nil (P := Try.prog) (w := w) (ty := ty) insK Try.underlying58 ⟨i0, i1⟩
          unfold insV at hdel
          go_region_held3 (fun w' => w'.cell? ⟨g, 2, none⟩ = some (.map (some b2)) ∧ w'.cell? ⟨wr.heap.size, 0, none⟩ = some (.bool y.f0) ∧ w'.cell? ⟨wr.heap.size, 1, none⟩ = some (.int .i64 y.f1) ∧ w'.cell? ⟨wr.heap.size, 2, none⟩ = some (.bool y.f2) ∧
            w'.cell? ⟨w.heap.size, 0, none⟩ = some (.int .i64 i0) ∧ w'.cell? ⟨w.heap.size, 1, none⟩ = some (.int .i64 i1) ∧ (Instr.lookup 50 (.map (some b2)) (.agg #[.bool y.f0, .int .i64 y.f1, .bool y.f2]) false).run Try.prog w' = .ok (.map none) w')
            (exact hS _ (below_drew (Below.refl _ _))) (fail)
          rename_i hHeld_
          clear hHeld_ hdel
          have HN := Aside0.mk (show IxIn X.drew g b1 b2 W n D ((l.take (i + 1)).foldl (delG ⟨i0, i1⟩) G) by
            rw [foldl_take _ _ _ _ hlt y HY.out, delG_none _ _ _ (hIX.noRow _ (get_no hget))]
            exact hIX.of_blocks (fun _ _ => rfl))
          have HK3 := Aside0.mk (show X.drew.heap[w.heap.size]? = _ from hKX)
          have HKe3 : Aside0 (Kept own w2 X.drew) := ⟨HKe.out.new (below_drew hbX)⟩
          have HR3 := Aside0.mk (Kd.R_below HRr.out (below_drew hbX))
          clear hS hIX hKX hget hnew
          go_wp2_with fail
          go_roundw
          case rel => exact ⟨i + 1, by omega, by go_num, HN, HKe3, HK3, HR3⟩
          case measure => simp [intOf]; omega
        | some r =>
          rw [hget] at hS
          obtain ⟨r1, r2, r3⟩ := hIX.rows _ (get_mem hget)
          obtain ⟨o, hdel, hM, hoth⟩ := MapAt.drop (P := Try.prog) (w := X.drew) (ty := 0) insK Try.underlying58 (r3.of_block rfl) ⟨i0, i1⟩
          unfold insV at hdel
          have hrow : own r := (hown r).2 (Or.inr (Or.inr (Or.inr ⟨_, get_mem hget, rfl⟩)))
          have hrl : r < w.heap.size := HL.out hrow
          have hg : r ≠ g := MapAt.notCells r3 hIX.head
          have hwl : w.heap.size < wr.heap.size := blk_lt HKr.out
          have hSd : ∀ w', w' = ChangeMaps.setBlock X.drew r o → w'.cell? ⟨g, 2, none⟩ = some (.map (some b2)) ∧ w'.cell? ⟨wr.heap.size, 0, none⟩ = some (.bool y.f0) ∧ w'.cell? ⟨wr.heap.size, 1, none⟩ = some (.int .i64 y.f1) ∧ w'.cell? ⟨wr.heap.size, 2, none⟩ = some (.bool y.f2) ∧
            w'.cell? ⟨w.heap.size, 0, none⟩ = some (.int .i64 i0) ∧ w'.cell? ⟨w.heap.size, 1, none⟩ = some (.int .i64 i1) ∧ (Instr.lookup 50 (.map (some b2)) (.agg #[.bool y.f0, .int .i64 y.f1, .bool y.f2]) false).run Try.prog w' = .ok (.map (some r)) w' := by
            rintro w' rfl
            have e1 := (hoth g hg.symm).trans (show X.drew.heap[g]? = _ from hIX.head)
            have e2 := (hoth wr.heap.size (by omega)).trans (show X.drew.heap[wr.heap.size]? = _ from hnew)
            have e3 := (hoth w.heap.size (by omega)).trans (show X.drew.heap[w.heap.size]? = _ from hKX)
            have e4 := lookRow (hIX.whr.of_block (hoth b2 (Ne.symm r2))) y
            rw [hget] at e4
            exact ⟨blk_cell e1 2, blk_cell e2 0, blk_cell e2 1, blk_cell e2 2, blk_cell e3 0, blk_cell e3 1, e4⟩
          have HN := Aside0.mk (show IxIn (ChangeMaps.setBlock X.drew r o) g b1 b2 W n D ((l.take (i + 1)).foldl (delG ⟨i0, i1⟩) G) by
            rw [foldl_take _ _ _ _ hlt y HY.out]
            refine IxIn.turn (w := X) hIX hget ?_ (fun K hK => delG_ne _ _ _ _ hK) hoth
            rw [delG_at]
            exact hM)
          have HK3 := Aside0.mk ((hoth w.heap.size (by omega)).trans (show X.drew.heap[w.heap.size]? = _ from hKX))
          have HKe3 : Aside0 (Kept own w2 (ChangeMaps.setBlock X.drew r o)) := ⟨(HKe.out.new (below_drew hbX)).trans (own' := own) ⟨rfl, rfl, rfl, by simp [ChangeMaps.setBlock], fun j hj hn => hoth j (fun e => hn (e ▸ hrow))⟩ (fun _ h => Or.inl h)⟩
          have HR3 : Aside0 (Kd.R k57 57 (ChangeMaps.setBlock X.drew r o) w1.heap.size (fun _ => True) (.slice (some ad') l.length cc2) l) := ⟨R_up (Kd.R_below HRr.out (below_drew hbX)) (fun k hk _ => hoth k (by have := HB1.out.size; omega))⟩
          have HSd := Aside0.mk hSd
          clear r3 hM hoth hSd
          go_region_held3 (fun w' => w'.cell? ⟨g, 2, none⟩ = some (.map (some b2)) ∧ w'.cell? ⟨wr.heap.size, 0, none⟩ = some (.bool y.f0) ∧ w'.cell? ⟨wr.heap.size, 1, none⟩ = some (.int .i64 y.f1) ∧ w'.cell? ⟨wr.heap.size, 2, none⟩ = some (.bool y.f2) ∧
            w'.cell? ⟨w.heap.size, 0, none⟩ = some (.int .i64 i0) ∧ w'.cell? ⟨w.heap.size, 1, none⟩ = some (.int .i64 i1) ∧ (Instr.lookup 50 (.map (some b2)) (.agg #[.bool y.f0, .int .i64 y.f1, .bool y.f2]) false).run Try.prog w' = .ok (.map (some r)) w')
            (first | exact hS _ (below_drew (Below.refl _ _)) | exact HSd.out _ rfl) (fail)
          rename_i hHeld_
          clear hHeld_ hdel HSd hS hIX hKX hget hnew
          go_wp2_with fail
          go_roundw
          case rel => exact ⟨i + 1, by omega, by go_num, HN, HKe3, HK3, HR3⟩
          case measure => simp [intOf]; omega
      · have hil : i = l.length := by omega
        subst hil
        rw [List.take_length] at HIr
        have HP2 : Aside0 (D' = put D ⟨i0, i1⟩ ⟨⟨i0, i1⟩, ⟨c0, c1, c2, c3, c4, c5⟩, s⟩ ∧ G' = (kOf ⟨c0, c1, c2, c3, c4, c5⟩).foldl (putG ⟨i0, i1⟩ s) (l.foldl (delG ⟨i0, i1⟩) G)) := by
          have := HP1.out
          rw [ho, Prod.mk.injEq] at this
          refine ⟨this.1.symm, ?_⟩
          rw [← this.2, ← hl]
          rfl
        obtain ⟨G1, hG1⟩ : ∃ G1, l.foldl (delG ⟨i0, i1⟩) G = G1 := ⟨_, rfl⟩
        rw [hG1] at HP2 HIr
        clear HP1 hl ho hi hlt hG1 HRr HC2 HI2 HX1
        go_wp2_with fail
        obtain ⟨o, hst, hM, hoth⟩ := MapAt.store (P := Try.prog) (w := wr.drew) insK Try.underlying49 (HIr.out.all.of_block rfl) ⟨i0, i1⟩ ⟨⟨i0, i1⟩, ⟨c0, c1, c2, c3, c4, c5⟩, s⟩
        unfold insV knV at hst
        dsimp only at hst
        have hS : ∀ w', Below wr.heap.size wr w' → w'.cell? ⟨g, 1, none⟩ = some (.map (some b1)) ∧ w'.cell? ⟨w.heap.size, 0, none⟩ = some (.int .i64 i0) ∧ w'.cell? ⟨w.heap.size, 1, none⟩ = some (.int .i64 i1) ∧ w'.cell? ⟨w.heap.size, 2, none⟩ = some (.int .i64 c0) ∧ w'.cell? ⟨w.heap.size, 3, none⟩ = some (.int .i64 c1) ∧ w'.cell? ⟨w.heap.size, 4, none⟩ = some (.int .i64 c2) ∧ w'.cell? ⟨w.heap.size, 5, none⟩ = some (.int .i64 c3) ∧ w'.cell? ⟨w.heap.size, 6, none⟩ = some (.int .i64 c4) ∧ w'.cell? ⟨w.heap.size, 7, none⟩ = some (.string c5) ∧ w'.cell? ⟨w.heap.size, 8, none⟩ = some (.int .i64 s) := fun w' hb =>
          have a := (hb.block _ (blk_lt HIr.out.head)).trans HIr.out.head
          have b := (hb.block _ (blk_lt HKr.out)).trans HKr.out
          ⟨blk_cell a 1, blk_cell b 0, blk_cell b 1, blk_cell b 2, blk_cell b 3, blk_cell b 4, blk_cell b 5, blk_cell b 6, blk_cell b 7, blk_cell b 8⟩
        have hb1own : own b1 := (hown b1).2 (Or.inr (Or.inl rfl))
        have hb1l : b1 < w.heap.size := HL.out hb1own
        have hg1 : b1 ≠ g := MapAt.notCells HIr.out.all HIr.out.head
        have HI7 := Aside0.mk (IxIn.turnAll (w := wr) HIr.out hM hoth)
        have HK7 := Aside0.mk ((hoth w.heap.size (by omega)).trans (show wr.drew.heap[w.heap.size]? = _ from HKr.out))
        have HKe7 : Aside0 (Kept own w2 (ChangeMaps.setBlock wr.drew b1 o)) := ⟨(HKe.out.new (below_drew (Below.refl _ _))).trans (own' := own) ⟨rfl, rfl, rfl, by simp [ChangeMaps.setBlock], fun j hj hn => hoth j (fun e => hn (e ▸ hb1own))⟩ (fun _ h => Or.inl h)⟩
        have HSt : Aside0 (∀ w', w' = ChangeMaps.setBlock wr.drew b1 o → w'.cell? ⟨g, 1, none⟩ = some (.map (some b1)) ∧ w'.cell? ⟨w.heap.size, 0, none⟩ = some (.int .i64 i0) ∧ w'.cell? ⟨w.heap.size, 1, none⟩ = some (.int .i64 i1) ∧ w'.cell? ⟨w.heap.size, 2, none⟩ = some (.int .i64 c0) ∧ w'.cell? ⟨w.heap.size, 3, none⟩ = some (.int .i64 c1) ∧ w'.cell? ⟨w.heap.size, 4, none⟩ = some (.int .i64 c2) ∧ w'.cell? ⟨w.heap.size, 5, none⟩ = some (.int .i64 c3) ∧ w'.cell? ⟨w.heap.size, 6, none⟩ = some (.int .i64 c4) ∧ w'.cell? ⟨w.heap.size, 7, none⟩ = some (.string c5) ∧ w'.cell? ⟨w.heap.size, 8, none⟩ = some (.int .i64 s)) := ⟨by
          rintro w' rfl
          have a := HI7.out.head
          have b := HK7.out
          exact ⟨blk_cell a 1, blk_cell b 0, blk_cell b 1, blk_cell b 2, blk_cell b 3, blk_cell b 4, blk_cell b 5, blk_cell b 6, blk_cell b 7, blk_cell b 8⟩⟩
        clear hM hoth
        go_region_held3 (fun w' => w'.cell? ⟨g, 1, none⟩ = some (.map (some b1)) ∧ w'.cell? ⟨w.heap.size, 0, none⟩ = some (.int .i64 i0) ∧ w'.cell? ⟨w.heap.size, 1, none⟩ = some (.int .i64 i1) ∧ w'.cell? ⟨w.heap.size, 2, none⟩ = some (.int .i64 c0) ∧ w'.cell? ⟨w.heap.size, 3, none⟩ = some (.int .i64 c1) ∧ w'.cell? ⟨w.heap.size, 4, none⟩ = some (.int .i64 c2) ∧ w'.cell? ⟨w.heap.size, 5, none⟩ = some (.int .i64 c3) ∧ w'.cell? ⟨w.heap.size, 6, none⟩ = some (.int .i64 c4) ∧ w'.cell? ⟨w.heap.size, 7, none⟩ = some (.string c5) ∧ w'.cell? ⟨w.heap.size, 8, none⟩ = some (.int .i64 s))
          (first | exact hS _ (below_drew (Below.refl _ _)) | exact HSt.out _ rfl) (fail)
        rename_i hHeld_
        clear hHeld_ hS HSt hst HIr HKr HKe
        generalize ChangeMaps.setBlock wr.drew b1 o = w7 at HI7 HK7 HKe7 ⊢
        have x1 := blk_cell HK7.out 2
        have x2 := blk_cell HK7.out 3
        have x3 := blk_cell HK7.out 4
        have x4 := blk_cell HK7.out 5
        have x5 := blk_cell HK7.out 6
        have x6 := blk_cell HK7.out 7
        simp only [List.getElem?_toArray, List.getElem?_cons_zero, List.getElem?_cons_succ] at x1 x2 x3 x4 x5 x6
        go_wp2_with fail
        clear x1 x2 x3 x4 x5 x6
        refine (keys_Of.calls _ _ _ _ _ _ _ _ (of_eq c0 c1 c2 c3 c4 c5)).mono ?_
        rintro e w8 ⟨v8, rfl, hr8, hb8⟩
        obtain ⟨A8, cc8, rfl, hc8, hC8⟩ := Kd.R_reads hr8
        have HI8 := Aside0.mk (HI7.out.below hb8)
        have HK8 := Aside0.mk ((hb8.block _ (blk_lt HK7.out)).trans HK7.out)
        have HKe8 : Aside0 (Kept own w2 w8) := ⟨HKe7.out.new hb8⟩
        have HR8 := Aside0.mk hr8
        have hlen8 := hC8.2.1
        clear HI7 HK7 HKe7 hb8 hr8 hC8
        obtain ⟨l8, hl8⟩ : ∃ l, keysOf c0 c1 c2 c3 c4 c5 = l := ⟨_, rfl⟩
        rw [hl8] at HR8 hc8 hlen8 ⊢
        have HP3 : Aside0 (D' = put D ⟨i0, i1⟩ ⟨⟨i0, i1⟩, ⟨c0, c1, c2, c3, c4, c5⟩, s⟩ ∧ G' = l8.foldl (putG ⟨i0, i1⟩ s) G1) := ⟨by rw [← hl8]; exact HP2.out⟩
        clear HP2 hl8
        go_wp2_with fail
        go_loopw [47] (fun v47 wr => ∃ (i : Nat) (W1 : List (S57 × Nat)), i ≤ l8.length ∧ v47 = .int .i64 i ∧ Aside0 (IxIn wr g b1 b2 W1 n (put D ⟨i0, i1⟩ ⟨⟨i0, i1⟩, ⟨c0, c1, c2, c3, c4, c5⟩, s⟩) ((l8.take i).foldl (putG ⟨i0, i1⟩ s) G1)) ∧
          Aside0 ((∀ p, p ∈ W → p ∈ W1) ∧ ∀ p, p ∈ W1 → p ∈ W ∨ w.heap.size ≤ p.2) ∧ Aside0 (Kept own w wr) ∧
          Aside0 (wr.heap[w.heap.size]? = some (.cells #[.int .i64 i0, .int .i64 i1, .int .i64 c0, .int .i64 c1, .int .i64 c2, .int .i64 c3, .int .i64 c4, .string c5, .int .i64 s] 29 (0, 0))) ∧
          Aside0 (Kd.R k57 57 wr w7.heap.size (fun _ => True) (.slice A8 l8.length cc8) l8)) (fun v47 _ => l8.length - (intOf v47).toNat)
        case atStart => exact ⟨0, W, by omega, rfl, HI8, ⟨⟨fun _ h => h, fun _ h => Or.inl h⟩⟩, ⟨(Kept.of_below (below_step HB1.out HB2.out)).trans HKe8.out (fun _ h => Or.inl h)⟩, HK8, HR8⟩
        case round =>
          clear HI8 HKe8 HK8 HR8
          obtain ⟨i, W1, hi, rfl, HIr, HW, HKe, HKr, HRr⟩ := hrel
          by_cases hlt : i < l8.length
          · obtain ⟨ad', e0, hx0, hx1, hx2⟩ := at_T57 (Kd.R_reads' HRr.out).2.2 (i : Int) (by omega) (by omega)
            cases e0
            obtain ⟨y, hy⟩ : ∃ y, rd_T57 l8 (i : Int) = y := ⟨_, rfl⟩
            simp only [hy, Int.toNat_natCast] at hx0 hx1 hx2
            have HY : Aside0 (l8[i]'hlt = y) := ⟨by rw [← hy, rdK_at l8 i hlt]⟩
            clear hy
            go_wp2_with fail
            have hnew := heap_alloc_new wr (.cells #[.bool y.f0, .int .i64 y.f1, .bool y.f2] 57)
            have hbX := below_alloc (Below.refl wr.heap.size wr) (.cells #[.bool y.f0, .int .i64 y.f1, .bool y.f2] 57)
            have hszX : (wr.alloc (.cells #[.bool y.f0, .int .i64 y.f1, .bool y.f2] 57)).heap.size = wr.heap.size + 1 := by simp
            generalize wr.alloc (.cells #[.bool y.f0, .int .i64 y.f1, .bool y.f2] 57) = X at hnew hbX hszX ⊢
            have hIX := HIr.out.below hbX
            have hKX := (hbX.block _ (blk_lt HKr.out)).trans HKr.out
            have hKeX : Kept own w X := HKe.out.new hbX
            have hRX := Kd.R_below HRr.out hbX
            have hwl : w.heap.size < wr.heap.size := blk_lt HKr.out
            clear HIr HKe HKr HRr hbX hx0 hx1 hx2
            have hS : ∀ w', Below X.heap.size X w' → w'.cell? ⟨g, 2, none⟩ = some (.map (some b2)) ∧ w'.cell? ⟨wr.heap.size, 0, none⟩ = some (.bool y.f0) ∧ w'.cell? ⟨wr.heap.size, 1, none⟩ = some (.int .i64 y.f1) ∧ w'.cell? ⟨wr.heap.size, 2, none⟩ = some (.bool y.f2) ∧ (Instr.lookup 50 (.map (some b2)) (.agg #[.bool y.f0, .int .i64 y.f1, .bool y.f2]) false).run Try.prog w' = .ok (.map (M.get W1 y)) w' := fun w' hb =>
              ⟨pw_cell_below hb (blk_cell hIX.head 2), pw_cell_below hb (blk_cell hnew 0), pw_cell_below hb (blk_cell hnew 1), pw_cell_below hb (blk_cell hnew 2), lookRow (hIX.below hb).whr y⟩
            cases hget : M.get W1 y with
            | none =>
              rw [hget] at hS
              go_region_held3 (fun w' => w'.cell? ⟨g, 2, none⟩ = some (.map (some b2)) ∧ w'.cell? ⟨wr.heap.size, 0, none⟩ = some (.bool y.f0) ∧ w'.cell? ⟨wr.heap.size, 1, none⟩ = some (.int .i64 y.f1) ∧ w'.cell? ⟨wr.heap.size, 2, none⟩ = some (.bool y.f2) ∧ (Instr.lookup 50 (.map (some b2)) (.agg #[.bool y.f0, .int .i64 y.f1, .bool y.f2]) false).run Try.prog w' = .ok (.map none) w') (exact hS _ (below_drew (Below.refl _ _))) (fail)
              rename_i hHeld_
              clear hHeld_
              go_wp2_with fail
              have hXd : ∃ X1, X.drew = X1 := ⟨_, rfl⟩
              have hIX1 := hIX.below (below_drew (Below.refl X.heap.size X))
              have hnew1 : X.drew.heap[wr.heap.size]? = some (.cells #[.bool y.f0, .int .i64 y.f1, .bool y.f2] 57 (0, 0)) := hnew
              have hKX1 : X.drew.heap[w.heap.size]? = some (.cells #[.int .i64 i0, .int .i64 i1, .int .i64 c0, .int .i64 c1, .int .i64 c2, .int .i64 c3, .int .i64 c4, .string c5, .int .i64 s] 29 (0, 0)) := hKX
              have hKeX1 : Kept own w X.drew := hKeX.new (below_drew (Below.refl _ _))
              have hRX1 := Kd.R_drew hRX
              have hszX1 : X.drew.heap.size = wr.heap.size + 1 := hszX
              clear hS hIX hnew hKX hKeX hRX hszX hXd
              generalize X.drew = X1 at hIX1 hnew1 hKX1 hKeX1 hRX1 hszX1 ⊢
              have hMd : MapAt ((X1.alloc (.map #[] 0)).drew) b2 keyV mapV W1 := hIX1.whr.of_block (Below.heap_alloc X1 _ _ hIX1.whr.lt)
              obtain ⟨o, hst, hM, hoth⟩ := MapAt.store (P := Try.prog) keyK Try.underlying50 hMd y X1.heap.size
              unfold keyV mapV at hst
              have hMn : MapAt ((X1.alloc (.map #[] 0)).drew) X1.heap.size insV intV [] := (MapAt.made X1 insV intV).of_block rfl
              have hb2l : b2 < X1.heap.size := hIX1.whr.lt
              have hb2own : own b2 := (hown b2).2 (Or.inr (Or.inr (Or.inl rfl)))
              have hbA : Below X1.heap.size X1 ((X1.alloc (.map #[] 0)).drew) := below_drew (below_alloc (Below.refl _ _) _)
              have hIX2 : IxIn (ChangeMaps.setBlock ((X1.alloc (.map #[] 0)).drew) b2 o) g b1 b2 (W1 ++ [(y, X1.heap.size)]) n (put D ⟨i0, i1⟩ ⟨⟨i0, i1⟩, ⟨c0, c1, c2, c3, c4, c5⟩, s⟩) ((l8.take i).foldl (putG ⟨i0, i1⟩ s) G1) :=
                hIX1.addRow hget (Nat.le_refl _) hM (hMn.of_block (hoth _ (by omega))) (fun j hj hl => (hoth j hj).trans (hbA.block j hl))
              have hg2 : b2 ≠ g := MapAt.notCells hIX1.whr hIX1.head
              have hn2 : b2 ≠ wr.heap.size := MapAt.notCells hIX1.whr hnew1
              have hk2 : b2 ≠ w.heap.size := MapAt.notCells hIX1.whr hKX1
              have hnew2 := (hoth wr.heap.size (Ne.symm hn2)).trans ((hbA.block _ (blk_lt hnew1)).trans hnew1)
              have hKX2 := (hoth w.heap.size (Ne.symm hk2)).trans ((hbA.block _ (blk_lt hKX1)).trans hKX1)
              have hKeX2 : Kept own w (ChangeMaps.setBlock ((X1.alloc (.map #[] 0)).drew) b2 o) := (hKeX1.new hbA).trans (own' := own) ⟨rfl, rfl, rfl, by simp [ChangeMaps.setBlock], fun j hj hn => hoth j (fun e => hn (e ▸ hb2own))⟩ (fun _ h => Or.inl h)
              have hRX2 : Kd.R k57 57 (ChangeMaps.setBlock ((X1.alloc (.map #[] 0)).drew) b2 o) w7.heap.size (fun _ => True) (.slice (some ad') l8.length cc8) l8 := R_maps (Kd.R_drew (Kd.R_alloc hRX1 _)) (fun k cs q hk => hoth k (MapAt.notCells hMd hk).symm)
              have HS2 : Aside0 (∀ w', w' = ChangeMaps.setBlock ((X1.alloc (.map #[] 0)).drew) b2 o → w'.cell? ⟨g, 2, none⟩ = some (.map (some b2)) ∧ w'.cell? ⟨wr.heap.size, 0, none⟩ = some (.bool y.f0) ∧ w'.cell? ⟨wr.heap.size, 1, none⟩ = some (.int .i64 y.f1) ∧ w'.cell? ⟨wr.heap.size, 2, none⟩ = some (.bool y.f2)) := ⟨by
                rintro w' rfl
                exact ⟨blk_cell hIX2.head 2, blk_cell hnew2 0, blk_cell hnew2 1, blk_cell hnew2 2⟩⟩
              have HS1 : Aside0 (∀ w', Below X1.heap.size X1 w' → w'.cell? ⟨g, 2, none⟩ = some (.map (some b2)) ∧ w'.cell? ⟨wr.heap.size, 0, none⟩ = some (.bool y.f0) ∧ w'.cell? ⟨wr.heap.size, 1, none⟩ = some (.int .i64 y.f1) ∧ w'.cell? ⟨wr.heap.size, 2, none⟩ = some (.bool y.f2)) := ⟨fun w' hb => ⟨pw_cell_below hb (blk_cell hIX1.head 2), pw_cell_below hb (blk_cell hnew1 0), pw_cell_below hb (blk_cell hnew1 1), pw_cell_below hb (blk_cell hnew1 2)⟩⟩
              have HSn := Aside0.mk hszX1
              have hget2 : M.get (W1 ++ [(y, X1.heap.size)]) y = some X1.heap.size := get_new _ hget
              have HW2 : Aside0 ((∀ p, p ∈ W → p ∈ W1 ++ [(y, X1.heap.size)]) ∧ ∀ p, p ∈ W1 ++ [(y, X1.heap.size)] → p ∈ W ∨ w.heap.size ≤ p.2) := ⟨fun p hp => List.mem_append_left _ (HW.out.1 p hp), fun p hp => by
                rcases List.mem_append.1 hp with hp | hp
                · exact HW.out.2 p hp
                · have : p = (y, X1.heap.size) := by simpa using hp
                  subst this
                  right
                  show w.heap.size ≤ X1.heap.size
                  omega⟩
              have hrf : own X1.heap.size ∨ w.heap.size ≤ X1.heap.size := Or.inr (by omega)
              clear hMd hM hoth hMn hbA hIX1 hnew1 hKX1 hKeX1 hRX1 hszX1
              go_region_held3 (fun w' => w'.cell? ⟨g, 2, none⟩ = some (.map (some b2)) ∧ w'.cell? ⟨wr.heap.size, 0, none⟩ = some (.bool y.f0) ∧ w'.cell? ⟨wr.heap.size, 1, none⟩ = some (.int .i64 y.f1) ∧ w'.cell? ⟨wr.heap.size, 2, none⟩ = some (.bool y.f2)) (first | exact HS1.out _ (below_drew (Below.refl _ _)) | exact HS1.out _ (below_drew (below_alloc (Below.refl _ _) _)) | exact HS1.out _ (below_alloc (below_drew (Below.refl _ _)) _) | exact HS2.out _ rfl) (fail)
              rename_i hHeld_
              clear hHeld_ HS1 HS2 hst
              go_wp2_with fail
              generalize ChangeMaps.setBlock ((X1.alloc (.map #[] 0)).drew) b2 o = X2 at hIX2 hnew2 hKX2 hKeX2 hRX2 ⊢
              generalize X1.heap.size = r at hIX2 hget2 HW2 hrf ⊢
              generalize W1 ++ [(y, r)] = W2 at hIX2 hget2 HW2 ⊢
              have hget := hget2
              have hS3 : ∀ w', Below X2.heap.size X2 w' → w'.cell? ⟨g, 2, none⟩ = some (.map (some b2)) ∧ w'.cell? ⟨wr.heap.size, 0, none⟩ = some (.bool y.f0) ∧ w'.cell? ⟨wr.heap.size, 1, none⟩ = some (.int .i64 y.f1) ∧ w'.cell? ⟨wr.heap.size, 2, none⟩ = some (.bool y.f2) ∧ w'.cell? ⟨w.heap.size, 0, none⟩ = some (.int .i64 i0) ∧ w'.cell? ⟨w.heap.size, 1, none⟩ = some (.int .i64 i1) ∧ w'.cell? ⟨w.heap.size, 8, none⟩ = some (.int .i64 s) ∧ (Instr.lookup 50 (.map (some b2)) (.agg #[.bool y.f0, .int .i64 y.f1, .bool y.f2]) false).run Try.prog w' = .ok (.map (some r)) w' := fun w' hb =>
                ⟨pw_cell_below hb (blk_cell hIX2.head 2), pw_cell_below hb (blk_cell hnew2 0), pw_cell_below hb (blk_cell hnew2 1), pw_cell_below hb (blk_cell hnew2 2), pw_cell_below hb (blk_cell hKX2 0), pw_cell_below hb (blk_cell hKX2 1), pw_cell_below hb (blk_cell hKX2 8), by
                  have := lookRow (hIX2.below hb).whr y
                  rw [hget2] at this
                  exact this⟩
              obtain ⟨r1, r2, r3⟩ := hIX2.rows _ (get_mem hget2)
              have hrg : r ≠ g := MapAt.notCells r3 hIX2.head
              have hrn : r ≠ wr.heap.size := MapAt.notCells r3 hnew2
              have hrk : r ≠ w.heap.size := MapAt.notCells r3 hKX2
              obtain ⟨o3, hst3, hM3, hoth3⟩ := MapAt.store (P := Try.prog) (w := X2.drew) insK Try.underlying58 (r3.of_block rfl) ⟨i0, i1⟩ s
              unfold insV intV at hst3
              dsimp only at hst3
              have HI4 := Aside0.mk (show IxIn (ChangeMaps.setBlock X2.drew r o3) g b1 b2 W2 n (put D ⟨i0, i1⟩ ⟨⟨i0, i1⟩, ⟨c0, c1, c2, c3, c4, c5⟩, s⟩) ((l8.take (i + 1)).foldl (putG ⟨i0, i1⟩ s) G1) by
                rw [foldl_take _ _ _ _ hlt y HY.out]
                refine IxIn.turn (w := X2) hIX2 hget2 ?_ (fun K hK => putG_ne _ _ _ _ _ hK) hoth3
                rw [putG_at]
                exact hM3)
              have HK4 := Aside0.mk ((hoth3 w.heap.size (Ne.symm hrk)).trans (show X2.drew.heap[w.heap.size]? = _ from hKX2))
              have HN4 := Aside0.mk ((hoth3 wr.heap.size (Ne.symm hrn)).trans (show X2.drew.heap[wr.heap.size]? = _ from hnew2))
              have HKe4 : Aside0 (Kept own w (ChangeMaps.setBlock X2.drew r o3)) := ⟨(hKeX2.new (below_drew (Below.refl _ _))).trans (own' := fun j => j = r) ⟨rfl, rfl, rfl, by simp [ChangeMaps.setBlock], fun j hj hn => hoth3 j hn⟩ (fun j h => by rw [h]; exact hrf)⟩
              have HR4 : Aside0 (Kd.R k57 57 (ChangeMaps.setBlock X2.drew r o3) w7.heap.size (fun _ => True) (.slice (some ad') l8.length cc8) l8) := ⟨R_maps (Kd.R_drew hRX2) (fun k cs q hk => hoth3 k (MapAt.notCells (r3.of_block rfl) hk).symm)⟩
              have HSd : Aside0 (∀ w', w' = ChangeMaps.setBlock X2.drew r o3 → w'.cell? ⟨g, 2, none⟩ = some (.map (some b2)) ∧ w'.cell? ⟨wr.heap.size, 0, none⟩ = some (.bool y.f0) ∧ w'.cell? ⟨wr.heap.size, 1, none⟩ = some (.int .i64 y.f1) ∧ w'.cell? ⟨wr.heap.size, 2, none⟩ = some (.bool y.f2) ∧ w'.cell? ⟨w.heap.size, 0, none⟩ = some (.int .i64 i0) ∧ w'.cell? ⟨w.heap.size, 1, none⟩ = some (.int .i64 i1) ∧ w'.cell? ⟨w.heap.size, 8, none⟩ = some (.int .i64 s) ∧ (Instr.lookup 50 (.map (some b2)) (.agg #[.bool y.f0, .int .i64 y.f1, .bool y.f2]) false).run Try.prog w' = .ok (.map (some r)) w') := ⟨by
                rintro w' rfl
                have e4 := lookRow HI4.out.whr y
                rw [hget2] at e4
                exact ⟨blk_cell HI4.out.head 2, blk_cell HN4.out 0, blk_cell HN4.out 1, blk_cell HN4.out 2, blk_cell HK4.out 0, blk_cell HK4.out 1, blk_cell HK4.out 8, e4⟩⟩
              clear r3 hM3 hoth3 hIX2 hnew2 hKX2 hKeX2 hRX2
              go_region_held3 (fun w' => w'.cell? ⟨g, 2, none⟩ = some (.map (some b2)) ∧ w'.cell? ⟨wr.heap.size, 0, none⟩ = some (.bool y.f0) ∧ w'.cell? ⟨wr.heap.size, 1, none⟩ = some (.int .i64 y.f1) ∧ w'.cell? ⟨wr.heap.size, 2, none⟩ = some (.bool y.f2) ∧ w'.cell? ⟨w.heap.size, 0, none⟩ = some (.int .i64 i0) ∧ w'.cell? ⟨w.heap.size, 1, none⟩ = some (.int .i64 i1) ∧ w'.cell? ⟨w.heap.size, 8, none⟩ = some (.int .i64 s) ∧ (Instr.lookup 50 (.map (some b2)) (.agg #[.bool y.f0, .int .i64 y.f1, .bool y.f2]) false).run Try.prog w' = .ok (.map (some r)) w') (first | exact hS3 _ (below_drew (Below.refl _ _)) | exact HSd.out _ rfl) (fail)
              rename_i hHeld_
              clear hHeld_ hS3 HSd hst3 HN4
              go_wp2_with fail
              go_roundw
              case rel => exact ⟨i + 1, W2, by omega, by go_num, HI4, HW2, HKe4, HK4, HR4⟩
              case measure => simp [intOf]; omega
            | some r =>
              rw [hget] at hS
              go_region_held3 (fun w' => w'.cell? ⟨g, 2, none⟩ = some (.map (some b2)) ∧ w'.cell? ⟨wr.heap.size, 0, none⟩ = some (.bool y.f0) ∧ w'.cell? ⟨wr.heap.size, 1, none⟩ = some (.int .i64 y.f1) ∧ w'.cell? ⟨wr.heap.size, 2, none⟩ = some (.bool y.f2) ∧ (Instr.lookup 50 (.map (some b2)) (.agg #[.bool y.f0, .int .i64 y.f1, .bool y.f2]) false).run Try.prog w' = .ok (.map (some r)) w') (exact hS _ (below_drew (Below.refl _ _))) (fail)
              rename_i hHeld_
              clear hHeld_
              go_wp2_with fail
              have hIX2 := hIX.below (below_drew (Below.refl X.heap.size X))
              have hnew2 : X.drew.heap[wr.heap.size]? = some (.cells #[.bool y.f0, .int .i64 y.f1, .bool y.f2] 57 (0, 0)) := hnew
              have hKX2 : X.drew.heap[w.heap.size]? = some (.cells #[.int .i64 i0, .int .i64 i1, .int .i64 c0, .int .i64 c1, .int .i64 c2, .int .i64 c3, .int .i64 c4, .string c5, .int .i64 s] 29 (0, 0)) := hKX
              have hKeX2 : Kept own w X.drew := hKeX.new (below_drew (Below.refl _ _))
              have hRX2 := Kd.R_drew hRX
              have hget2 := hget
              have HW1 := HW
              have hrf : own r ∨ w.heap.size ≤ r := by
                rcases HW.out.2 _ (get_mem hget) with h | h
                · exact Or.inl ((hown r).2 (Or.inr (Or.inr (Or.inr ⟨_, h, rfl⟩))))
                · exact Or.inr h
              clear hS hIX hnew hKX hKeX hRX hszX
              generalize X.drew = X2 at hIX2 hnew2 hKX2 hKeX2 hRX2 ⊢
              obtain ⟨W2, hW2e⟩ : ∃ W2, W1 = W2 := ⟨_, rfl⟩
              subst hW2e
              have hS3 : ∀ w', Below X2.heap.size X2 w' → w'.cell? ⟨g, 2, none⟩ = some (.map (some b2)) ∧ w'.cell? ⟨wr.heap.size, 0, none⟩ = some (.bool y.f0) ∧ w'.cell? ⟨wr.heap.size, 1, none⟩ = some (.int .i64 y.f1) ∧ w'.cell? ⟨wr.heap.size, 2, none⟩ = some (.bool y.f2) ∧ w'.cell? ⟨w.heap.size, 0, none⟩ = some (.int .i64 i0) ∧ w'.cell? ⟨w.heap.size, 1, none⟩ = some (.int .i64 i1) ∧ w'.cell? ⟨w.heap.size, 8, none⟩ = some (.int .i64 s) ∧ (Instr.lookup 50 (.map (some b2)) (.agg #[.bool y.f0, .int .i64 y.f1, .bool y.f2]) false).run Try.prog w' = .ok (.map (some r)) w' := fun w' hb =>
                ⟨pw_cell_below hb (blk_cell hIX2.head 2), pw_cell_below hb (blk_cell hnew2 0), pw_cell_below hb (blk_cell hnew2 1), pw_cell_below hb (blk_cell hnew2 2), pw_cell_below hb (blk_cell hKX2 0), pw_cell_below hb (blk_cell hKX2 1), pw_cell_below hb (blk_cell hKX2 8), by
                  have := lookRow (hIX2.below hb).whr y
                  rw [hget2] at this
                  exact this⟩
              obtain ⟨r1, r2, r3⟩ := hIX2.rows _ (get_mem hget2)
              have hrg : r ≠ g := MapAt.notCells r3 hIX2.head
              have hrn : r ≠ wr.heap.size := MapAt.notCells r3 hnew2
              have hrk : r ≠ w.heap.size := MapAt.notCells r3 hKX2
              obtain ⟨o3, hst3, hM3, hoth3⟩ := MapAt.store (P := Try.prog) (w := X2.drew) insK Try.underlying58 (r3.of_block rfl) ⟨i0, i1⟩ s
              unfold insV intV at hst3
              dsimp only at hst3
              have HI4 := Aside0.mk (show IxIn (ChangeMaps.setBlock X2.drew r o3) g b1 b2 W1 n (put D ⟨i0, i1⟩ ⟨⟨i0, i1⟩, ⟨c0, c1, c2, c3, c4, c5⟩, s⟩) ((l8.take (i + 1)).foldl (putG ⟨i0, i1⟩ s) G1) by
                rw [foldl_take _ _ _ _ hlt y HY.out]
                refine IxIn.turn (w := X2) hIX2 hget2 ?_ (fun K hK => putG_ne _ _ _ _ _ hK) hoth3
                rw [putG_at]
                exact hM3)
              have HK4 := Aside0.mk ((hoth3 w.heap.size (Ne.symm hrk)).trans (show X2.drew.heap[w.heap.size]? = _ from hKX2))
              have HN4 := Aside0.mk ((hoth3 wr.heap.size (Ne.symm hrn)).trans (show X2.drew.heap[wr.heap.size]? = _ from hnew2))
              have HKe4 : Aside0 (Kept own w (ChangeMaps.setBlock X2.drew r o3)) := ⟨(hKeX2.new (below_drew (Below.refl _ _))).trans (own' := fun j => j = r) ⟨rfl, rfl, rfl, by simp [ChangeMaps.setBlock], fun j hj hn => hoth3 j hn⟩ (fun j h => by rw [h]; exact hrf)⟩
              have HR4 : Aside0 (Kd.R k57 57 (ChangeMaps.setBlock X2.drew r o3) w7.heap.size (fun _ => True) (.slice (some ad') l8.length cc8) l8) := ⟨R_maps (Kd.R_drew hRX2) (fun k cs q hk => hoth3 k (MapAt.notCells (r3.of_block rfl) hk).symm)⟩
              have HSd : Aside0 (∀ w', w' = ChangeMaps.setBlock X2.drew r o3 → w'.cell? ⟨g, 2, none⟩ = some (.map (some b2)) ∧ w'.cell? ⟨wr.heap.size, 0, none⟩ = some (.bool y.f0) ∧ w'.cell? ⟨wr.heap.size, 1, none⟩ = some (.int .i64 y.f1) ∧ w'.cell? ⟨wr.heap.size, 2, none⟩ = some (.bool y.f2) ∧ w'.cell? ⟨w.heap.size, 0, none⟩ = some (.int .i64 i0) ∧ w'.cell? ⟨w.heap.size, 1, none⟩ = some (.int .i64 i1) ∧ w'.cell? ⟨w.heap.size, 8, none⟩ = some (.int .i64 s) ∧ (Instr.lookup 50 (.map (some b2)) (.agg #[.bool y.f0, .int .i64 y.f1, .bool y.f2]) false).run Try.prog w' = .ok (.map (some r)) w') := ⟨by
                rintro w' rfl
                have e4 := lookRow HI4.out.whr y
                rw [hget2] at e4
                exact ⟨blk_cell HI4.out.head 2, blk_cell HN4.out 0, blk_cell HN4.out 1, blk_cell HN4.out 2, blk_cell HK4.out 0, blk_cell HK4.out 1, blk_cell HK4.out 8, e4⟩⟩
              clear r3 hM3 hoth3 hIX2 hnew2 hKX2 hKeX2 hRX2
              go_region_held3 (fun w' => w'.cell? ⟨g, 2, none⟩ = some (.map (some b2)) ∧ w'.cell? ⟨wr.heap.size, 0, none⟩ = some (.bool y.f0) ∧ w'.cell? ⟨wr.heap.size, 1, none⟩ = some (.int .i64 y.f1) ∧ w'.cell? ⟨wr.heap.size, 2, none⟩ = some (.bool y.f2) ∧ w'.cell? ⟨w.heap.size, 0, none⟩ = some (.int .i64 i0) ∧ w'.cell? ⟨w.heap.size, 1, none⟩ = some (.int .i64 i1) ∧ w'.cell? ⟨w.heap.size, 8, none⟩ = some (.int .i64 s) ∧ (Instr.lookup 50 (.map (some b2)) (.agg #[.bool y.f0, .int .i64 y.f1, .bool y.f2]) false).run Try.prog w' = .ok (.map (some r)) w') (first | exact hS3 _ (below_drew (Below.refl _ _)) | exact HSd.out _ rfl) (fail)
              rename_i hHeld_
              clear hHeld_ hS3 HSd hst3 HN4
              go_wp2_with fail
              go_roundw
              case rel => exact ⟨i + 1, W1, by omega, by go_num, HI4, HW1, HKe4, HK4, HR4⟩
              case measure => simp [intOf]; omega
          · have hil : i = l8.length := by omega
            subst hil
            rw [List.take_length, ← HP3.out.2, ← HP3.out.1] at HIr
            have HF : ∃ own', IxAt wr g own' n D' G' ∧ (∀ i, own i → own' i) ∧ (∀ i, own' i → own i ∨ w.heap.size ≤ i) ∧ Kept own w wr := ⟨IxOwn g b1 b2 W1, ⟨b1, b2, W1, HIr.out, fun _ => Iff.rfl⟩, fun i h => by
              rcases (hown i).1 h with h | h | h | ⟨p, hp, h⟩
              · exact Or.inl h
              · exact Or.inr (Or.inl h)
              · exact Or.inr (Or.inr (Or.inl h))
              · exact Or.inr (Or.inr (Or.inr ⟨p, HW.out.1 p hp, h⟩)), fun i h => by
              rcases h with h | h | h | ⟨p, hp, h⟩
              · exact Or.inl ((hown i).2 (Or.inl h))
              · exact Or.inl ((hown i).2 (Or.inr (Or.inl h)))
              · exact Or.inl ((hown i).2 (Or.inr (Or.inr (Or.inl h))))
              · rcases HW.out.2 p hp with h2 | h2
                · exact Or.inl ((hown i).2 (Or.inr (Or.inr (Or.inr ⟨p, h2, h⟩))))
                · right
                  rw [← h]
                  exact h2, HKe.out⟩
            have HF' := Aside0.mk HF
            clear HF HIr HW HKe HKr HRr
            go_wp2_with fail
            exact bodyPost_end (v := .tuple #[]) (by simp [results, Try.results14, go_sem]) rfl ⟨rfl, HF'.out⟩
  · have hp := HP.out
    unfold putP at hp
    rw [if_neg hm, Prod.mk.injEq] at hp
    obtain ⟨rfl, rfl⟩ := hp
    rw [Bool.eq_false_iff.2 hm]
    clear HP hm
    go_wp2_with fail
    exact bodyPost_ret (v := .tuple #[]) (by simp [results, Try.results14, go_sem]) rfl ⟨rfl, own, HX1.out, fun i h => h, fun i h => Or.inl h, Kept.of_below HB1.out⟩
end
section
open Go.Proofs.Ytgenfbpaooeofaa.M
/-- one more that is known -/
def stepA (self : S26) (a : Int × List Int) (p : S26 × Int) : Int × List Int := if p.1 = self then a else (mx a.1 p.2, a.2.set (p.1.f0 - 1).toNat (mx (rd a.2 (p.1.f0 - 1)) p.1.f1))
/-- those behind a key -/
def withCh (K : S57) (ch : Bool) : S57 := ⟨K.f0, K.f1, ch⟩
def rowOf (G : S57 → List (S26 × Int)) (K : S57) (ch : Bool) : List (S26 × Int) := if meetB K (withCh K ch) = true then G (withCh K ch) else []
def rowsOf (G : S57 → List (S26 × Int)) (K : S57) : List (S26 × Int) := rowOf G K true ++ rowOf G K false
def foldA (self : S26) (n : Int) (G : S57 → List (S26 × Int)) (l : List S57) : Int × List Int := (l.flatMap (rowsOf G)).foldl (stepA self) (0, List.replicate n.toNat 0)
def attrP (n : Int) (G : S57 → List (S26 × Int)) (c : S24) (self : S26) : Int × List Int := (wrap64 ((foldA self n G (kOf c)).1 + 1), (foldA self n G (kOf c)).2)
theorem R_kinds {α : Type} {d : Kd α} {e : Nat} {w w1 : World} {base : Nat} {ok : Nat → Prop} {v : Value} {xs : List α} (h : d.R e w base ok v xs) (hm : ∀ (k : Nat) (cs : Array Value) (q : Nat), q ∈ e :: d.E → w.heap[k]? = some (Obj.cells cs q (0, 0)) → w1.heap[k]? = w.heap[k]?) : d.R e w1 base ok v xs :=
  Kd.R_mono (Kd.R_move (Kd.R_bound h) (fun k hk => by obtain ⟨_, _, _, q, hq, cells, hc⟩ := hk; exact hm k cells q hq hc)) (fun _ h => h.1)
theorem blk_ne {w : World} {a b : Nat} {c1 c2 : Array Value} {t1 t2 : TypeId} {f1 f2 : Nat × Nat} (h1 : w.heap[a]? = some (Obj.cells c1 t1 f1)) (h2 : w.heap[b]? = some (Obj.cells c2 t2 f2)) (ht : t1 ≠ t2) : a ≠ b := by
  intro e
  rw [e, h2] at h1
  cases h1
  exact ht rfl
/-- the blocks of a call of Attr -/
structure AtIn (w wr : World) (g b1 b2 : Nat) (W : List (S57 × Nat)) (n : Int) (D : List (S26 × S29)) (G : S57 → List (S26 × Int)) (c : S24) (sf : S26) (ba gA m cap : Nat) (a : Int × List Int) : Prop where
  hix : IxIn wr g b1 b2 W n D G
  how : ∀ i, IxOwn g b1 b2 W i → i < w.heap.size
  hbc : wr.heap[w.heap.size]? = some (.cells #[.int .i64 c.f0, .int .i64 c.f1, .int .i64 c.f2, .int .i64 c.f3, .int .i64 c.f4, .string c.f5] 24 (0, 0))
  hbs : wr.heap[w.heap.size + 1]? = some (.cells #[.int .i64 sf.f0, .int .i64 sf.f1] 26 (0, 0))
  hbr : wr.heap[w.heap.size + 2]? = some (.cells #[.int .i64 0, .slice none 0 0] 32 (0, 0))
  hba : wr.heap[ba]? = some (.cells #[.int .i64 a.1, .slice (some ⟨gA, 0, none⟩) m cap] 32 (0, 0))
  hbl : w.heap.size + 2 < ba
  hde : Kd.R (Kd.int .i64) 3 wr w.heap.size (fun _ => True) (.slice (some ⟨gA, 0, none⟩) m cap) a.2
  hln : a.2.length = m
  hbe : Below w.heap.size w wr
section
variable {w wr : World} {g b1 b2 : Nat} {W : List (S57 × Nat)} {n : Int} {D : List (S26 × S29)} {G : S57 → List (S26 × Int)} {c : S24} {sf : S26} {ba gA m cap : Nat} {a : Int × List Int}
theorem AtIn.below (h : AtIn w wr g b1 b2 W n D G c sf ba gA m cap a) {w2 : World} (hb : Below wr.heap.size wr w2) : AtIn w w2 g b1 b2 W n D G c sf ba gA m cap a :=
  ⟨h.hix.below hb, h.how, (hb.block _ (blk_lt h.hbc)).trans h.hbc, (hb.block _ (blk_lt h.hbs)).trans h.hbs, (hb.block _ (blk_lt h.hbr)).trans h.hbr, (hb.block _ (blk_lt h.hba)).trans h.hba, h.hbl, Kd.R_below h.hde hb, h.hln, below_step h.hbe hb⟩
/-- the greatest number has been written -/
theorem AtIn.seq (h : AtIn w wr g b1 b2 W n D G c sf ba gA m cap a) (v : Int) : AtIn w (wr.setCell ⟨ba, 0, none⟩ (.int .i64 v)) g b1 b2 W n D G c sf ba gA m cap (v, a.2) := by
  have hf : ∀ i, i ≠ ba → (wr.setCell ⟨ba, 0, none⟩ (.int .i64 v)).heap[i]? = wr.heap[i]? := fun i hi => Below.heap_setCell wr ⟨ba, 0, none⟩ _ i hi
  have hl := h.hbl
  refine ⟨h.hix.of_blocks (fun i hi => hf i (by have := h.how i hi; omega)), h.how, (hf _ (by omega)).trans h.hbc, (hf _ (by omega)).trans h.hbs, (hf _ (by omega)).trans h.hbr, ?_, h.hbl, ?_, h.hln, ?_⟩
  · exact blk_set h.hba 0 _
  · exact R_kinds h.hde (fun k cs q hq hk => hf k (fun e => by
      rw [e, h.hba] at hk
      cases hk
      simp [Kd.int, Kd.scalar] at hq))
  · exact h.hbe.setCell (by show w.heap.size ≤ ba; omega) _
/-- .. and the slot of a replica -/
theorem AtIn.dep (h : AtIn w wr g b1 b2 W n D G c sf ba gA m cap a) (i : Int) (v : Int) (hm : 0 < m) : AtIn w (wr.setCell ⟨gA, i.toNat, none⟩ (.int .i64 v)) g b1 b2 W n D G c sf ba gA m cap (a.1, a.2.set i.toNat v) := by
  have hf : ∀ j, j ≠ gA → (wr.setCell ⟨gA, i.toNat, none⟩ (.int .i64 v)).heap[j]? = wr.heap[j]? := fun j hi => Below.heap_setCell wr ⟨gA, i.toNat, none⟩ _ j hi
  obtain ⟨g', cap', he, hgb, hgl, cs, hc⟩ := Kd.R_form h.hde (by rw [h.hln]; exact hm)
  have hgg : g' = gA := by
    injection he with e1 e2 e3
    injection e1 with e1
    injection e1 with e1
    exact e1.symm
  subst hgg
  have hp := Kd.R_putn h.hde i v
  refine ⟨h.hix.of_blocks (fun j hj => hf j (by have := h.how j hj; omega)), h.how, (hf _ (blk_ne h.hbc hc (by decide))).trans h.hbc, (hf _ (blk_ne h.hbs hc (by decide))).trans h.hbs, (hf _ (blk_ne h.hbr hc (by decide))).trans h.hbr, (hf _ (blk_ne h.hba hc (by decide))).trans h.hba, h.hbl, hp, by rw [List.length_set]; exact h.hln, ?_⟩
  exact h.hbe.setCell hgb _
/-- a step of the range -/
theorem AtIn.grown (h : AtIn w wr g b1 b2 W n D G c sf ba gA m cap a) {w2 : World} {r : Nat} (hg : wr.grownBy w2 (some r)) (hr : w.heap.size ≤ r) {o : Option Nat} {s : Nat} {q : Array Nat} {k : Nat} (hi : wr.heap[r]? = some (.mapIter o s q k)) : AtIn w w2 g b1 b2 W n D G c sf ba gA m cap a := by
  have hf : ∀ j, j < wr.heap.size → j ≠ r → w2.heap[j]? = wr.heap[j]? := fun j hj hn => hg.block j hj (by simpa using hn)
  have hn : ∀ {j : Nat} {cs : Array Value} {t : TypeId} {f : Nat × Nat}, wr.heap[j]? = some (Obj.cells cs t f) → j ≠ r := fun hj e => by
    rw [e, hi] at hj
    cases hj
  refine ⟨h.hix.of_blocks (fun j hj => hf j (h.hix.lt hj) (by have := h.how j hj; omega)), h.how, (hf _ (blk_lt h.hbc) (hn h.hbc)).trans h.hbc, (hf _ (blk_lt h.hbs) (hn h.hbs)).trans h.hbs, (hf _ (blk_lt h.hbr) (hn h.hbr)).trans h.hbr, (hf _ (blk_lt h.hba) (hn h.hba)).trans h.hba, h.hbl, ?_, h.hln, ?_⟩
  · exact R_kinds h.hde (fun k cs q hq hk => hf k (blk_lt hk) (hn hk))
  · exact h.hbe.grown hg h.hbe.size (fun k hk => by cases hk; exact hr)
theorem AtIn.start {w11 : World} (hb : Below (((w.alloc (.cells #[.int .i64 c.f0, .int .i64 c.f1, .int .i64 c.f2, .int .i64 c.f3, .int .i64 c.f4, .string c.f5] 24)).alloc (.cells #[.int .i64 sf.f0, .int .i64 sf.f1] 26)).alloc (.cells #[.int .i64 0, .slice none 0 0] 32)).heap.size (((w.alloc (.cells #[.int .i64 c.f0, .int .i64 c.f1, .int .i64 c.f2, .int .i64 c.f3, .int .i64 c.f4, .string c.f5] 24)).alloc (.cells #[.int .i64 sf.f0, .int .i64 sf.f1] 26)).alloc (.cells #[.int .i64 0, .slice none 0 0] 32)) w11)
    (hI : IxIn (((w.alloc (.cells #[.int .i64 c.f0, .int .i64 c.f1, .int .i64 c.f2, .int .i64 c.f3, .int .i64 c.f4, .string c.f5] 24)).alloc (.cells #[.int .i64 sf.f0, .int .i64 sf.f1] 26)).alloc (.cells #[.int .i64 0, .slice none 0 0] 32)) g b1 b2 W n D G)
    (how : ∀ i, IxOwn g b1 b2 W i → i < w.heap.size)
    (ho : Kd.R (Kd.int .i64) 3 w11 (((w.alloc (.cells #[.int .i64 c.f0, .int .i64 c.f1, .int .i64 c.f2, .int .i64 c.f3, .int .i64 c.f4, .string c.f5] 24)).alloc (.cells #[.int .i64 sf.f0, .int .i64 sf.f1] 26)).alloc (.cells #[.int .i64 0, .slice none 0 0] 32)).heap.size (fun _ => True) (.slice (some ⟨gA, 0, none⟩) m cap) (List.replicate m 0)) :
    AtIn w (w11.alloc (.cells #[.int .i64 0, .slice (some ⟨gA, 0, none⟩) m cap] 32)) g b1 b2 W n D G c sf w11.heap.size gA m cap (0, List.replicate m 0) := by
  have n1 := heap_alloc_new w (.cells #[.int .i64 c.f0, .int .i64 c.f1, .int .i64 c.f2, .int .i64 c.f3, .int .i64 c.f4, .string c.f5] 24)
  have hs1 : (w.alloc (.cells #[.int .i64 c.f0, .int .i64 c.f1, .int .i64 c.f2, .int .i64 c.f3, .int .i64 c.f4, .string c.f5] 24)).heap.size = w.heap.size + 1 := by simp
  have hb1 := below_alloc (Below.refl w.heap.size w) (.cells #[.int .i64 c.f0, .int .i64 c.f1, .int .i64 c.f2, .int .i64 c.f3, .int .i64 c.f4, .string c.f5] 24)
  generalize w.alloc (.cells #[.int .i64 c.f0, .int .i64 c.f1, .int .i64 c.f2, .int .i64 c.f3, .int .i64 c.f4, .string c.f5] 24) = w1 at hb hI ho n1 hs1 hb1
  have n2 := heap_alloc_new w1 (.cells #[.int .i64 sf.f0, .int .i64 sf.f1] 26)
  have hs2 : (w1.alloc (.cells #[.int .i64 sf.f0, .int .i64 sf.f1] 26)).heap.size = w1.heap.size + 1 := by simp
  have hb2 := below_alloc (Below.refl w1.heap.size w1) (.cells #[.int .i64 sf.f0, .int .i64 sf.f1] 26)
  generalize w1.alloc (.cells #[.int .i64 sf.f0, .int .i64 sf.f1] 26) = w2 at hb hI ho n2 hs2 hb2
  have n3 := heap_alloc_new w2 (.cells #[.int .i64 0, .slice none 0 0] 32)
  have hs3 : (w2.alloc (.cells #[.int .i64 0, .slice none 0 0] 32)).heap.size = w2.heap.size + 1 := by simp
  have hb3 := below_alloc (Below.refl w2.heap.size w2) (.cells #[.int .i64 0, .slice none 0 0] 32)
  generalize w2.alloc (.cells #[.int .i64 0, .slice none 0 0] 32) = w3 at hb hI ho n3 hs3 hb3
  have n4 := heap_alloc_new w11 (.cells #[.int .i64 0, .slice (some ⟨gA, 0, none⟩) m cap] 32)
  have hb4 := below_alloc (Below.refl w11.heap.size w11) (.cells #[.int .i64 0, .slice (some ⟨gA, 0, none⟩) m cap] 32)
  generalize w11.alloc (.cells #[.int .i64 0, .slice (some ⟨gA, 0, none⟩) m cap] 32) = w12 at n4 hb4 ⊢
  rw [hs1] at n2
  rw [hs2, hs1] at n3
  have hsz := hb.size
  have B3 : Below w3.heap.size w3 w12 := below_step hb hb4
  have B2 : Below w2.heap.size w2 w12 := below_step hb3 B3
  have B1 : Below w1.heap.size w1 w12 := below_step hb2 B2
  have B0 : Below w.heap.size w w12 := below_step hb1 B1
  exact ⟨hI.below B3, how, (B1.block _ (by omega)).trans n1, (B2.block _ (by omega)).trans n2, (B3.block _ (by omega)).trans n3, n4, by omega, Kd.R_lower (Kd.R_below ho hb4) (by omega), List.length_replicate, B0⟩
end
theorem max2_mx (k k' : IntKind) (x y : Int) : Builtin.max2 (.int k x) (.int k' y) = pure (.int k (mx x y)) := max2_int k k' x y
attribute [local go_sem high] max2_mx max_two
attribute [local go_sem high] eqInst
theorem range_left {α β : Type} [DecidableEq α] {w : World} {b r : Nat} {mk : α → Value} {mv : β → Value} {L left : List (α × β)} (h : RangeAt w b r mk mv L left) : w.rangeLeft b r = left.length := by
  obtain ⟨es, clock, since, seen, c0, hb, hs, hl, hr, _, _, _, he⟩ := h
  simp only [World.rangeLeft, hb, hr]
  have := congrArg List.length he
  simpa using this
theorem range_iter {α β : Type} [DecidableEq α] {w : World} {b r : Nat} {mk : α → Value} {mv : β → Value} {L left : List (α × β)} (h : RangeAt w b r mk mv L left) : ∃ s q k, w.heap[r]? = some (.mapIter (some b) s q k) := by
  obtain ⟨es, clock, since, seen, c0, hb, hs, hl, hr, _⟩ := h
  exact ⟨_, _, _, hr⟩
theorem mx_comm (a b c : Int) : mx (mx a b) c = mx (mx a c) b := by unfold mx; repeat' split <;> omega
theorem stepA_comm (sf : S26) (a : Int × List Int) (p q : S26 × Int) : stepA sf (stepA sf a p) q = stepA sf (stepA sf a q) p := by
  unfold stepA
  by_cases hp : p.1 = sf
  · by_cases hq : q.1 = sf
    · simp only [if_pos hp, if_pos hq]
    · simp only [if_pos hp, if_neg hq]
  · by_cases hq : q.1 = sf
    · simp only [if_neg hp, if_pos hq]
    · simp only [if_neg hp, if_neg hq]
      refine Prod.ext (mx_comm _ _ _) ?_
      show (a.2.set _ _).set _ _ = (a.2.set _ _).set _ _
      generalize hi : (p.1.f0 - 1).toNat = i
      generalize hj : (q.1.f0 - 1).toNat = j
      unfold rd
      simp only [hi, hj]
      apply List.ext_getElem
      · simp
      · intro k h1 h2
        simp only [List.length_set] at h1 h2
        simp only [List.getElem_set, List.getD_eq_getElem?_getD, List.getElem?_set]
        by_cases hjk : j = k
        · by_cases hik : i = k
          · subst hjk; subst hik
            simp [h1, mx_comm]
          · subst hjk
            simp [hik, Ne.symm hik]
        · by_cases hik : i = k
          · subst hik
            simp [hjk, Ne.symm hjk]
          · simp [hjk, hik]
theorem fold_perm (sf : S26) (a : Int × List Int) {l m : List (S26 × Int)} (h : l.Perm m) : l.foldl (stepA sf) a = m.foldl (stepA sf) a :=
  h.foldl_eq' (fun x _ y _ z => stepA_comm sf z x y) a
theorem region_tail {P : Program} {id : Nat} {Q : Exit → Act → World → Prop} {a : Act} {w : World} {l : List Oper} (n : Nat) (hm : P.follows .mixedOrders = true) (hB : Region.lexTailB .any l.toArray n = true)
    (h : wpStill P l.toArray w.drew (fun a' => wpList P l.toArray Q (l.drop n) a' w.drew) (l.take n) a) : (Code.region id l.toArray true).wp P Q a w := wp_region_still_tail n hm hB h
theorem take_ch (f : Bool → List (S26 × Int)) (j : Nat) (hj : j < 2) (ch : Bool) (h : [true, false][j]'hj = ch) : ([true, false].take (j + 1)).flatMap f = ([true, false].take j).flatMap f ++ f ch := by
  rw [List.take_succ_eq_append_getElem (by exact hj), h, List.flatMap_append]
  simp
set_option maxHeartbeats 8000000 in
set_option maxRecDepth 100000 in
theorem index_Attr.calls (g : Nat) (own : Nat → Prop) (n : Int) (D : List (S26 × S29)) (G : S57 → List (S26 × Int)) (c : S24) (self : S26) (w : World) (h : IxAt w g own n D G) (hn : 1 ≤ n ∧ n ≤ 7) (hG : ∀ K p, p ∈ G K → 1 ≤ p.1.f0 ∧ p.1.f0 ≤ n) :
    Calls Try.prog 16 #[.pointer (some ⟨g, 0, none⟩), .agg #[.int .i64 c.f0, .int .i64 c.f1, .int .i64 c.f2, .int .i64 c.f3, .int .i64 c.f4, .string c.f5], insV self] w fun e w' => ∃ v1_ : Value, e = .returned (.agg #[.int .i64 (attrP n G c self).1, v1_]) ∧ Kd.R (Kd.int .i64) 3 w' w.heap.size (fun _ => True) v1_ (attrP n G c self).2 ∧ Below w.heap.size w w' := by
  obtain ⟨b1, b2, W, hix, hown⟩ := h
  have hbA := below_alloc (below_alloc (below_alloc (Below.refl w.heap.size w) (.cells #[.int .i64 c.f0, .int .i64 c.f1, .int .i64 c.f2, .int .i64 c.f3, .int .i64 c.f4, .string c.f5] 24)) (.cells #[.int .i64 self.f0, .int .i64 self.f1] 26)) (.cells #[.int .i64 0, .slice none 0 0] 32)
  have HI := Aside0.mk (hix.below hbA)
  have HB := Aside0.mk hbA
  have HOW : Aside0 (∀ i, IxOwn g b1 b2 W i → i < w.heap.size) := ⟨fun i hi => hix.lt hi⟩
  have HG := Aside0.mk hG
  clear hix hown hbA hG
  have q0 := blk_cell HI.out.head 0
  simp only [List.getElem?_toArray, List.getElem?_cons_zero, List.getElem?_cons_succ] at q0
  unfold insV
  go_enter Try.func16, Try.ntmps16
  go_wp2_with (first | ((with_reducible refine gate_dst (N := 19) rfl ?_); refine Kd.R_make (Kd.int .i64) _ 3 rfl (N := 19) rfl 30 _ _ rfl n rfl rfl Try.underlying30 (.int .i64 0) 8 info3 rfl (by decide) (by omega) 0 (ok := fun _ => True) (okp := fun _ => True) rfl (fun _ hk => hk) trivial (by omega) (by omega) (Below.refl _ _) (Nat.le_refl _) ?_; intro v150 w11 ho12 hb hg_ hnew_; clear hg_ hnew_; have hlr : (List.replicate n.toNat (0 : Int)).length = n.toNat := List.length_replicate; obtain ⟨gA, cap, rfl, hgb, hgl, cs, hcs⟩ := Kd.R_form ho12 (by rw [hlr]; omega); rw [hlr] at ho12 ⊢; clear hlr hgb hgl hcs cs; have HA := Aside0.mk (AtIn.start hb HI.out HOW.out ho12); obtain ⟨ba, hba⟩ : ∃ ba, w11.heap.size = ba := ⟨_, rfl⟩; rw [hba] at HA; have x0 := blk_cell HA.out.hbc 0; have x1 := blk_cell HA.out.hbc 1; have x2 := blk_cell HA.out.hbc 2; have x3 := blk_cell HA.out.hbc 3; have x4 := blk_cell HA.out.hbc 4; have x5 := blk_cell HA.out.hbc 5; simp only [List.getElem?_toArray, List.getElem?_cons_zero, List.getElem?_cons_succ] at x0 x1 x2 x3 x4 x5; clear hb ho12))
  refine (keys_Of.calls _ _ _ _ _ _ _ _ (of_eq c.f0 c.f1 c.f2 c.f3 c.f4 c.f5)).mono ?_
  rintro e w12 ⟨v8, rfl, hr8, hb8⟩
  obtain ⟨A8, cc8, rfl, hc8, hC8⟩ := Kd.R_reads hr8
  have HA8 := Aside0.mk (HA.out.below hb8)
  have HR8 := Aside0.mk (Kd.R_lower hr8 (show w11.heap.size ≤ _ by simp))
  have hlen8 := hC8.2.1
  clear HA HI HB hb8 hr8 hC8 x0 x1 x2 x3 x4 x5 q0
  obtain ⟨l, hl⟩ : ∃ l, kOf c = l := ⟨_, rfl⟩
  have hl' : keysOf c.f0 c.f1 c.f2 c.f3 c.f4 c.f5 = l := hl
  rw [hl'] at HR8 hc8 hlen8 ⊢
  have HL := Aside0.mk hl
  clear hl hl'
  have hu57 := Try.underlying57
  have hu54 := Try.underlying54
  have hm0 : 0 < n.toNat := by omega
  obtain ⟨m, hmE⟩ : ∃ m, n.toNat = m := ⟨_, rfl⟩
  have HM := Aside0.mk hmE
  rw [hmE] at HA8 hm0 ⊢
  clear hmE
  go_wp2_with fail
  go_loopw [24] (fun v24 wr => ∃ (i : Nat) (acc : Int × List Int), i ≤ l.length ∧ v24 = .int .i64 i ∧ Aside0 (AtIn w wr g b1 b2 W n D G c self ba gA m cap acc) ∧ Aside0 (acc = ((l.take i).flatMap (rowsOf G)).foldl (stepA self) (0, List.replicate m 0)) ∧ Aside0 (Kd.R k57 57 wr w11.heap.size (fun _ => True) (.slice A8 l.length cc8) l)) (fun v24 _ => l.length - (intOf v24).toNat)
  case atStart => exact ⟨0, _, by omega, rfl, HA8, ⟨rfl⟩, HR8⟩
  case round =>
    clear HA8 HR8
    obtain ⟨i, acc0, hi, rfl, HA, HE, HRr⟩ := hrel
    by_cases hlt : i < l.length
    · obtain ⟨ad', e0, hx0, hx1, hx2⟩ := at_T57 (Kd.R_reads' HRr.out).2.2 (i : Int) (by omega) (by omega)
      cases e0
      obtain ⟨y, hy⟩ : ∃ y, rd_T57 l (i : Int) = y := ⟨_, rfl⟩
      simp only [hy, Int.toNat_natCast] at hx0 hx1 hx2
      have HY : Aside0 (l[i]'hlt = y) := ⟨by rw [← hy, rdK_at l i hlt]⟩
      clear hy
      go_wp2_with fail
      have hnew := Aside0.mk (heap_alloc_new wr (.cells #[.bool y.f0, .int .i64 y.f1, .bool y.f2] 57))
      have hbX := below_alloc (Below.refl wr.heap.size wr) (.cells #[.bool y.f0, .int .i64 y.f1, .bool y.f2] 57)
      have HAX := Aside0.mk (HA.out.below hbX)
      have HRX := Aside0.mk (Kd.R_below HRr.out hbX)
      obtain ⟨kb, hkb⟩ : ∃ kb, wr.heap.size = kb := ⟨_, rfl⟩
      rw [hkb] at hnew ⊢
      generalize wr.alloc (.cells #[.bool y.f0, .int .i64 y.f1, .bool y.f2] 57) = X at hnew HAX HRX ⊢
      have HKB : Aside0 (w.heap.size ≤ kb) := ⟨by rw [← hkb]; exact HA.out.hbe.size⟩
      clear hbX HA HRr hx0 hx1 hx2 hkb
      go_loopw [29] (fun v29 wr => ∃ (j : Nat) (acc : Int × List Int), j ≤ 2 ∧ v29 = .int .i64 j ∧ Aside0 (AtIn w wr g b1 b2 W n D G c self ba gA m cap acc) ∧ Aside0 (acc = (([true, false].take j).flatMap (rowOf G y)).foldl (stepA self) acc0) ∧
        Aside0 (wr.heap[kb]? = some (.cells #[.bool y.f0, .int .i64 y.f1, .bool y.f2] 57 (0, 0))) ∧ Aside0 (Kd.R k57 57 wr w11.heap.size (fun _ => True) (.slice (some ad') l.length cc8) l)) (fun v29 _ => 2 - (intOf v29).toNat)
      case atStart => exact ⟨0, acc0, by omega, rfl, HAX, ⟨rfl⟩, hnew, HRX⟩
      case round =>
        clear HAX HRX hnew
        obtain ⟨j, acc1, hj, rfl, HA, HE1, HK, HRr⟩ := hrel
        by_cases hlt2 : j < 2
        · obtain ⟨ch, hch⟩ : ∃ ch, [true, false][j]'hlt2 = ch := ⟨_, rfl⟩
          have y0 := blk_cell HK.out 0
          have y1 := blk_cell HK.out 1
          have y2 := blk_cell HK.out 2
          simp only [List.getElem?_toArray, List.getElem?_cons_zero, List.getElem?_cons_succ] at y0 y1 y2
          have hidx : ∀ W' : World, (Instr.index 59 (.agg #[.bool true, .bool false]) (.int .i64 (j : Int))).run Try.prog W' = .ok (.bool ch) W' := fun W' => by
            rcases (by omega : j = 0 ∨ j = 1) with rfl | rfl
            · rw [← hch]; rfl
            · rw [← hch]; rfl
          have hk1 : kb ≠ wr.heap.size := Nat.ne_of_lt (blk_lt HK.out)
          have hk2 : wr.heap.size ≠ kb := Ne.symm hk1
          have HCH := Aside0.mk hch
          clear hch
          have z0 := blk_cell (blk_alloc HK.out (.cells #[.bool y.f0, .int .i64 y.f1, .bool ch] 57)) 0
          have z1 := blk_cell (blk_alloc HK.out (.cells #[.bool y.f0, .int .i64 y.f1, .bool ch] 57)) 1
          have z2 := blk_cell (blk_alloc HK.out (.cells #[.bool y.f0, .int .i64 y.f1, .bool ch] 57)) 2
          simp only [List.getElem?_toArray, List.getElem?_cons_zero, List.getElem?_cons_succ] at z0 z1 z2
          go_wp2_with fail
          clear z0 z1 z2 y0 y1 y2 hidx hk1 hk2
          have hnew := Aside0.mk (heap_alloc_new wr (.cells #[.bool y.f0, .int .i64 y.f1, .bool ch] 57))
          have hbX := below_alloc (Below.refl wr.heap.size wr) (.cells #[.bool y.f0, .int .i64 y.f1, .bool ch] 57)
          have hszX : (wr.alloc (.cells #[.bool y.f0, .int .i64 y.f1, .bool ch] 57)).heap.size = wr.heap.size + 1 := by simp
          have HAX := Aside0.mk (HA.out.below hbX)
          have HRX := Aside0.mk (Kd.R_below HRr.out hbX)
          have HKX := Aside0.mk ((hbX.block _ (blk_lt HK.out)).trans HK.out)
          obtain ⟨ob, hob⟩ : ∃ ob, wr.heap.size = ob := ⟨_, rfl⟩
          rw [hob] at hnew ⊢
          generalize wr.alloc (.cells #[.bool y.f0, .int .i64 y.f1, .bool ch] 57) = X1 at hnew HAX HRX HKX ⊢
          clear hbX HA HRr HK hob hszX
          refine (keys_Meet.calls y.f0 y.f1 y.f2 y.f0 y.f1 ch _ X1 (meet_eq y (withCh y ch))).mono ?_
          rintro e w2 ⟨rfl, hb2⟩
          have HA2 := Aside0.mk (HAX.out.below hb2)
          have HR2 := Aside0.mk (Kd.R_below HRX.out hb2)
          have HK2 := Aside0.mk ((hb2.block _ (blk_lt HKX.out)).trans HKX.out)
          have HO2 := Aside0.mk ((hb2.block _ (blk_lt hnew.out)).trans hnew.out)
          clear HAX HRX HKX hnew hb2
          cases hmt : meetB y (withCh y ch) with
          | false =>
            have HE2 : Aside0 (acc1 = (([true, false].take (j + 1)).flatMap (rowOf G y)).foldl (stepA self) acc0) := ⟨by
              rw [take_ch _ _ hlt2 ch HCH.out]
              have : rowOf G y ch = [] := by unfold rowOf; rw [hmt, if_neg (by simp)]
              rw [this, List.append_nil]
              exact HE1.out⟩
            clear hmt HE1
            go_wp2_with fail
            go_roundw
            case rel => exact ⟨j + 1, acc1, by omega, by go_num, HA2, HE2, HK2, HR2⟩
            case measure => simp [intOf]; omega
          | true =>
            have HRow : Aside0 (rowOf G y ch = G (withCh y ch)) := ⟨by unfold rowOf; rw [hmt, if_pos rfl]⟩
            clear hmt
            go_wp2_with fail
            have hS : ∀ w', Below w2.heap.size w2 w' → w'.cell? ⟨g, 2, none⟩ = some (.map (some b2)) ∧ w'.cell? ⟨ob, 0, none⟩ = some (.bool y.f0) ∧ w'.cell? ⟨ob, 1, none⟩ = some (.int .i64 y.f1) ∧ w'.cell? ⟨ob, 2, none⟩ = some (.bool ch) ∧ (Instr.lookup 50 (.map (some b2)) (.agg #[.bool y.f0, .int .i64 y.f1, .bool ch]) false).run Try.prog w' = .ok (.map (M.get W (withCh y ch))) w' := fun w' hb =>
              ⟨pw_cell_below hb (blk_cell HA2.out.hix.head 2), pw_cell_below hb (blk_cell HO2.out 0), pw_cell_below hb (blk_cell HO2.out 1), pw_cell_below hb (blk_cell HO2.out 2), lookRow (HA2.out.hix.below hb).whr (withCh y ch)⟩
            cases hget : M.get W (withCh y ch) with
            | none =>
              rw [hget] at hS
              have hrun := range_nil (P := Try.prog) (w := w2.drew) Try.underlying58
              go_region_held3 (fun w' => w'.cell? ⟨g, 2, none⟩ = some (.map (some b2)) ∧ w'.cell? ⟨ob, 0, none⟩ = some (.bool y.f0) ∧ w'.cell? ⟨ob, 1, none⟩ = some (.int .i64 y.f1) ∧ w'.cell? ⟨ob, 2, none⟩ = some (.bool ch) ∧ (Instr.lookup 50 (.map (some b2)) (.agg #[.bool y.f0, .int .i64 y.f1, .bool ch]) false).run Try.prog w' = .ok (.map none) w') (first | exact hS _ (below_drew (Below.refl _ _)) | exact hS _ (below_alloc (below_drew (Below.refl _ _)) _) | exact hS _ (below_drew (below_alloc (Below.refl _ _) _))) (fail)
              rename_i hHeld_
              clear hHeld_ hrun
              have HE2 : Aside0 (acc1 = (([true, false].take (j + 1)).flatMap (rowOf G y)).foldl (stepA self) acc0) := ⟨by
                rw [take_ch _ _ hlt2 ch HCH.out, HRow.out, HA2.out.hix.noRow _ (get_no hget), List.append_nil]
                exact HE1.out⟩
              clear hget hS
              have hit : (w2.alloc (.mapIter none 0 #[] 0)).drew.heap[w2.heap.size]? = some (.mapIter none 0 #[] 0) := (MapKept.heap_alloc w2 (.mapIter none 0 #[] 0)).1
              have hb3 : Below w2.heap.size w2 (w2.alloc (.mapIter none 0 #[] 0)).drew := below_drew (below_alloc (Below.refl _ _) _)
              have HA3 := Aside0.mk (HA2.out.below hb3)
              have HR3 := Aside0.mk (Kd.R_below HR2.out hb3)
              have HK3 := Aside0.mk ((hb3.block _ (blk_lt HK2.out)).trans HK2.out)
              generalize (w2.alloc (.mapIter none 0 #[] 0)).drew = X3 at hit HA3 HR3 HK3 ⊢
              have HIT := Aside0.mk hit
              generalize w2.heap.size = it at HIT ⊢
              clear HA2 HR2 HK2 HO2 hit hb3
              go_wp2_with fail
              go_loopw [46] (fun v46 wr => Aside0 (AtIn w wr g b1 b2 W n D G c self ba gA m cap acc1) ∧ Aside0 (wr.heap[kb]? = some (.cells #[.bool y.f0, .int .i64 y.f1, .bool y.f2] 57 (0, 0))) ∧ Aside0 (Kd.R k57 57 wr w11.heap.size (fun _ => True) (.slice (some ad') l.length cc8) l) ∧ Aside0 (wr.heap[it]? = some (.mapIter none 0 #[] 0))) (fun _ _ => 0)
              case atStart => exact ⟨HA3, HK3, HR3, HIT⟩
              case round =>
                clear HA3 HK3 HR3 HIT
                obtain ⟨HA3, HK3, HR3, HIT⟩ := hrel
                have hnx := fun ty => next_nil (P := Try.prog) ty HIT.out
                go_wp2_with fail
                go_roundw
                case rel => exact ⟨j + 1, acc1, by omega, by go_num, HA3, HE2, HK3, HR3⟩
                case measure => simp [intOf]; omega
            | some r =>
              rw [hget] at hS
              obtain ⟨r1, r2, r3⟩ := HA2.out.hix.rows _ (get_mem hget)
              obtain ⟨o, hrun, hRA⟩ := MapAt.range (P := Try.prog) (w := w2.drew) Try.underlying58 (r3.of_block rfl)
              go_region_held3 (fun w' => w'.cell? ⟨g, 2, none⟩ = some (.map (some b2)) ∧ w'.cell? ⟨ob, 0, none⟩ = some (.bool y.f0) ∧ w'.cell? ⟨ob, 1, none⟩ = some (.int .i64 y.f1) ∧ w'.cell? ⟨ob, 2, none⟩ = some (.bool ch) ∧ (Instr.lookup 50 (.map (some b2)) (.agg #[.bool y.f0, .int .i64 y.f1, .bool ch]) false).run Try.prog w' = .ok (.map (some r)) w') (first | exact hS _ (below_drew (Below.refl _ _)) | exact hS _ (below_alloc (below_drew (Below.refl _ _)) _) | exact hS _ (below_drew (below_alloc (Below.refl _ _) _))) (fail)
              rename_i hHeld_
              clear hHeld_ hrun
              have hRA3 : RangeAt (w2.alloc o).drew r w2.heap.size insV intV (G (withCh y ch)) (G (withCh y ch)) := hRA.of_block rfl rfl
              have hb3 : Below w2.heap.size w2 (w2.alloc o).drew := below_drew (below_alloc (Below.refl _ _) _)
              have HA3 := Aside0.mk (HA2.out.below hb3)
              have HR3 := Aside0.mk (Kd.R_below HR2.out hb3)
              have HK3 := Aside0.mk ((hb3.block _ (blk_lt HK2.out)).trans HK2.out)
              have hitl : w.heap.size ≤ w2.heap.size := HA2.out.hbe.size
              obtain ⟨R0, hR0⟩ : ∃ R0, G (withCh y ch) = R0 := ⟨_, rfl⟩
              have HRG : Aside0 (∀ p, p ∈ R0 → 1 ≤ p.1.f0 ∧ p.1.f0 ≤ n) := ⟨fun p hp => HG.out (withCh y ch) p (by rw [hR0]; exact hp)⟩
              rw [hR0] at hRA3 HRow
              generalize (w2.alloc o).drew = X3 at hRA3 HA3 HR3 HK3 ⊢
              have HRA3 := Aside0.mk hRA3
              generalize w2.heap.size = it at HRA3 hitl ⊢
              clear HA2 HR2 HK2 HO2 hRA hRA3 hb3 hR0 hget hS r1 r2 r3
              go_wp2_with fail
              go_loopw [46] (fun v46 wr => ∃ (S left : List (S26 × Int)) (acc : Int × List Int), Aside0 ((S ++ left).Perm R0) ∧ Aside0 (acc = S.foldl (stepA self) acc1) ∧ Aside0 (AtIn w wr g b1 b2 W n D G c self ba gA m cap acc) ∧ Aside0 (wr.heap[kb]? = some (.cells #[.bool y.f0, .int .i64 y.f1, .bool y.f2] 57 (0, 0))) ∧ Aside0 (Kd.R k57 57 wr w11.heap.size (fun _ => True) (.slice (some ad') l.length cc8) l) ∧ Aside0 (RangeAt wr r it insV intV R0 left)) (fun _ wr => wr.rangeLeft r it)
              case atStart => exact ⟨[], R0, acc1, ⟨List.Perm.refl _⟩, ⟨rfl⟩, HA3, HK3, HR3, HRA3⟩
              case round =>
                clear HA3 HK3 HR3 HRA3
                obtain ⟨S, left, acc, HPm, HAc, HA3, HK3, HR3, HRA⟩ := hrel
                rcases RangeAt.next (P := Try.prog) 0 HRA.out with ⟨h0, hnx⟩ | ⟨u, p, v, w4, hlf, hnx, hRA4, hgr, hsz4, hen⟩
                · have HE2 : Aside0 (acc = (([true, false].take (j + 1)).flatMap (rowOf G y)).foldl (stepA self) acc0) := ⟨by
                    have hp := HPm.out
                    rw [h0, List.append_nil] at hp
                    rw [take_ch _ _ hlt2 ch HCH.out, HRow.out, List.foldl_append, ← HE1.out, HAc.out]
                    exact fold_perm _ _ hp⟩
                  clear h0
                  go_wp2_with fail
                  go_roundw
                  case rel => exact ⟨j + 1, acc, by omega, by go_num, HA3, HE2, HK3, HR3⟩
                  case measure => simp [intOf]; omega
                · obtain ⟨⟨x0, x1⟩, sq⟩ := p
                  unfold insV intV at hnx hen
                  dsimp only at hnx hen
                  have hxb := HRG.out (⟨x0, x1⟩, sq) (HPm.out.mem_iff.1 (by rw [hlf]; simp))
                  dsimp only at hxb
                  obtain ⟨i1_, i2_, i3_, hiter⟩ := range_iter HRA.out
                  have HA4 := HA3.out.grown hgr hitl hiter
                  have HK4 : w4.heap[kb]? = some (.cells #[.bool y.f0, .int .i64 y.f1, .bool y.f2] 57 (0, 0)) := (hgr.block kb (blk_lt HK3.out) (by
                    intro e
                    have e2 : kb = it := by simpa using e
                    rw [← e2, HK3.out] at hiter
                    cases hiter)).trans HK3.out
                  have HR4 := R_kinds HR3.out (w1 := w4) (fun k cs q hq hk => hgr.block k (blk_lt hk) (by
                    intro e
                    have e2 : k = it := by simpa using e
                    rw [← e2, hk] at hiter
                    cases hiter))
                  have HLen := Aside0.mk (show wr.rangeLeft r it = (u ++ ((⟨x0, x1⟩ : S26), sq) :: v).length by rw [range_left HRA.out, hlf])
                  have HPm2 : Aside0 (((S ++ [((⟨x0, x1⟩ : S26), sq)]) ++ (u ++ v)).Perm R0) := ⟨by
                    have := HPm.out
                    rw [hlf] at this
                    refine List.Perm.trans ?_ this
                    rw [List.append_assoc]
                    exact List.Perm.append_left S (by simpa using (List.perm_middle (a := ((⟨x0, x1⟩ : S26), sq)) (l₁ := u) (l₂ := v)).symm)⟩
                  have hbA := below_alloc (Below.refl w4.heap.size w4) (.cells #[.int .i64 x0, .int .i64 x1] 26)
                  have hA5 := HA4.below hbA
                  have hR5 := Kd.R_below HR4 hbA
                  have hK5 := (hbA.block _ (blk_lt HK4)).trans HK4
                  have hnew5 := heap_alloc_new w4 (.cells #[.int .i64 x0, .int .i64 x1] 26)
                  have hRA5 : RangeAt (w4.alloc (.cells #[.int .i64 x0, .int .i64 x1] 26)) r it insV intV R0 (u ++ v) := hRA4.of_block (hbA.block _ hRA4.map.lt) (hbA.block _ hRA4.lt)
                  have s0 := blk_cell hA5.hbs 0
                  have s1 := blk_cell hA5.hbs 1
                  have a0 := blk_cell hA5.hba 0
                  have f0 := blk_frozen hA5.hba 0
                  simp only [List.getElem?_toArray, List.getElem?_cons_zero, List.getElem?_cons_succ] at s0 s1 a0
                  have HA5 := Aside0.mk hA5
                  have HR5 := Aside0.mk hR5
                  have HK5 := Aside0.mk hK5
                  have HN5 := Aside0.mk hnew5
                  have HRA5 := Aside0.mk hRA5
                  clear hA5 hR5 hK5 hnew5 hRA5 HA4 HK4 HR4 hRA4 hgr hiter HPm hlf hbA
                  cases hd : (x0 == self.f0 && (x1 == self.f1)) with
                  | true =>
                    have he : (⟨x0, x1⟩ : S26) = self := by
                      simp only [Bool.and_eq_true, beq_iff_eq] at hd
                      cases self
                      cases hd
                      simp_all
                    have HAc2 : Aside0 (acc = (S ++ [((⟨x0, x1⟩ : S26), sq)]).foldl (stepA self) acc1) := ⟨by
                      rw [List.foldl_append, ← HAc.out]
                      simp only [List.foldl_cons, List.foldl_nil]
                      unfold stepA
                      rw [if_pos he]⟩
                    have HLt : Aside0 ((w4.alloc (.cells #[.int .i64 x0, .int .i64 x1] 26)).rangeLeft r it < wr.rangeLeft r it) := ⟨by
                      rw [range_left HRA5.out, HLen.out]
                      simp⟩
                    clear he
                    go_wp2_with fail
                    exact ⟨⟨S ++ [((⟨x0, x1⟩ : S26), sq)], u ++ v, acc, HPm2, HAc2, HA5, HK5, HR5, HRA5⟩, HLt.out⟩
                  | false =>
                    have he : (⟨x0, x1⟩ : S26) ≠ self := by
                      rintro rfl
                      simp at hd
                    have HAc2 : Aside0 ((mx acc.1 sq, acc.2.set (x0 - 1).toNat (mx (rd acc.2 (x0 - 1)) x1)) = (S ++ [((⟨x0, x1⟩ : S26), sq)]).foldl (stepA self) acc1) := ⟨by
                      rw [List.foldl_append, ← HAc.out]
                      simp only [List.foldl_cons, List.foldl_nil]
                      unfold stepA
                      rw [if_neg he]⟩
                    clear he
                    go_wp2_with fail
                    have hA6 := HA5.out.seq (mx acc.1 sq)
                    have hne : ba ≠ w4.heap.size := blk_ne HA5.out.hba HN5.out (by decide)
                    have hf : ∀ i, i ≠ ba → ((w4.alloc (.cells #[.int .i64 x0, .int .i64 x1] 26)).setCell ⟨ba, 0, none⟩ (.int .i64 (mx acc.1 sq))).heap[i]? = (w4.alloc (.cells #[.int .i64 x0, .int .i64 x1] 26)).heap[i]? := fun i hi => Below.heap_setCell _ ⟨ba, 0, none⟩ _ i hi
                    have hN6 := (hf _ (Ne.symm hne)).trans HN5.out
                    have hK6 := (hf kb (blk_ne HK5.out HA5.out.hba (by decide))).trans HK5.out
                    have hR6 := R_kinds HR5.out (w1 := (w4.alloc (.cells #[.int .i64 x0, .int .i64 x1] 26)).setCell ⟨ba, 0, none⟩ (.int .i64 (mx acc.1 sq))) (fun k cs q hq hk => hf k (fun e => by
                      rw [e, HA5.out.hba] at hk
                      cases hk
                      revert hq
                      decide))
                    have hRA6 : RangeAt ((w4.alloc (.cells #[.int .i64 x0, .int .i64 x1] 26)).setCell ⟨ba, 0, none⟩ (.int .i64 (mx acc.1 sq))) r it insV intV R0 (u ++ v) := by
                      obtain ⟨q1, q2, q3, hit5⟩ := range_iter HRA5.out
                      refine HRA5.out.of_block (hf r (MapAt.notCells HRA5.out.map HA5.out.hba)) (hf it (fun e => ?_))
                      rw [e, HA5.out.hba] at hit5
                      cases hit5
                    clear hf s0 s1 a0 f0 hnx hen
                    rw [hsz4] at hN6
                    generalize (w4.alloc (.cells #[.int .i64 x0, .int .i64 x1] 26)).setCell ⟨ba, 0, none⟩ (.int .i64 (mx acc.1 sq)) = X6 at hA6 hN6 hK6 hR6 hRA6 ⊢
                    clear HA5 HK5 HR5 HN5 HRA5 hsz4
                    have hmn : (m : Int) = n := by have := HM.out; omega
                    have p0 : 0 ≤ x0 - 1 := by omega
                    have p1 : x0 - 1 < (m : Int) := by omega
                    have b1_ := blk_cell hA6.hba 1
                    have b2_ := blk_cell hN6 0
                    have b3_ := blk_cell hN6 1
                    obtain ⟨c1_, c2_⟩ := Kd.R_celln 0 hA6.hde (x0 - 1) p0 p1
                    simp only [List.getElem?_toArray, List.getElem?_cons_zero, List.getElem?_cons_succ] at b1_ b2_ b3_
                    have HA6 := Aside0.mk hA6
                    have HK6 := Aside0.mk hK6
                    have HR6 := Aside0.mk hR6
                    have HRA6 := Aside0.mk hRA6
                    have ht : (x0 - 1).toNat = x0.toNat - 1 := by omega
                    rw [ht] at c1_ c2_
                    clear ht
                    have hw : IntKind.i64.wrap (x0 - 1) = x0 - 1 := IntWalk.i64_in _ (by omega)
                    clear hA6 hN6 hK6 hR6 hRA6 hmn hd
                    refine region_tail 16 (by kernel_rfl) (by kernel_rfl) ?_
                    simp only [List.take_succ_cons, List.take_zero, List.drop_succ_cons, List.drop_zero]
                    repeat still_step
                    refine wpStill_nil ?_
                    go_wp2_with fail
                    have ht : x0.toNat - 1 = (x0 - 1).toNat := by omega
                    rw [ht]
                    obtain ⟨vv, hvv⟩ : ∃ vv, mx (rd acc.2 (x0 - 1)) x1 = vv := ⟨_, rfl⟩
                    have hvv' : mx (rdOf 0 acc.2 (x0 - 1)) x1 = vv := hvv
                    rw [hvv']
                    rw [hvv] at HAc2
                    have hA8 := HA6.out.dep (x0 - 1) vv hm0
                    obtain ⟨g', cap', he', hgb', hgl', cs', hcs'⟩ := Kd.R_form HA6.out.hde (by rw [HA6.out.hln]; exact hm0)
                    have hgg : gA = g' := by
                      injection he' with e1 e2 e3
                      injection e1 with e1
                      injection e1 with e1
                    subst hgg
                    have hf : ∀ i, i ≠ gA → (X6.setCell ⟨gA, (x0 - 1).toNat, none⟩ (.int .i64 vv)).drew.heap[i]? = X6.heap[i]? := fun i hi => Below.heap_setCell X6 ⟨gA, (x0 - 1).toNat, none⟩ _ i hi
                    have hRA8 : RangeAt (X6.setCell ⟨gA, (x0 - 1).toNat, none⟩ (.int .i64 vv)).drew r it insV intV R0 (u ++ v) := by
                      obtain ⟨q1, q2, q3, hit5⟩ := range_iter HRA6.out
                      refine HRA6.out.of_block (hf r (MapAt.notCells HRA6.out.map hcs')) (hf it (fun e => ?_))
                      rw [e, hcs'] at hit5
                      cases hit5
                    refine ⟨⟨S ++ [((⟨x0, x1⟩ : S26), sq)], u ++ v, _, HPm2, HAc2, ⟨hA8.below (below_drew (Below.refl _ _))⟩, ⟨(hf kb (blk_ne HK6.out hcs' (by decide))).trans HK6.out⟩, ⟨R_kinds HR6.out (fun k cs q hq hk => hf k (fun e => by
                      rw [e, hcs'] at hk
                      cases hk
                      revert hq
                      decide))⟩, ⟨hRA8⟩⟩, ?_⟩
                    rw [range_left hRA8, HLen.out]
                    simp
        · have hj2 : j = 2 := by omega
          subst hj2
          have HE2 : Aside0 (acc1 = ((l.take (i + 1)).flatMap (rowsOf G)).foldl (stepA self) (0, List.replicate m 0)) := ⟨by
            rw [List.take_succ_eq_append_getElem hlt, List.flatMap_append, List.foldl_append, ← HE.out, HY.out, HE1.out]
            simp [rowsOf]⟩
          clear HE1
          go_wp2_with fail
          go_roundw
          case rel => exact ⟨i + 1, acc1, by omega, by go_num, HA, HE2, HRr⟩
          case measure => simp [intOf]; omega
    · have hil : i = l.length := by omega
      subst hil
      have HF : Aside0 (foldA self n G (kOf c) = acc0) := ⟨by
        unfold foldA
        rw [HL.out, HM.out, HE.out, List.take_length]⟩
      have a0 := blk_cell HA.out.hba 0
      have f0 := blk_frozen HA.out.hba 0
      simp only [List.getElem?_toArray, List.getElem?_cons_zero, List.getElem?_cons_succ] at a0
      obtain ⟨vv, hvv⟩ : ∃ vv, wrap64 (acc0.1 + 1) = vv := ⟨_, rfl⟩
      have hvv2 : IntKind.i64.wrap (acc0.1 + 1) = vv := by rw [← hvv]; unfold wrap64; rw [IntKind.wrap_i64]
      have a1 := blk_cell HA.out.hba 1
      have hA9 := HA.out.seq vv
      have r0 := blk_cell hA9.hbr 0
      have r1 := blk_cell hA9.hbr 1
      have g0 := blk_frozen hA9.hbr 0
      have g1 := blk_frozen hA9.hbr 1
      simp only [List.getElem?_toArray, List.getElem?_cons_zero, List.getElem?_cons_succ] at a1 r0 r1
      have HA9 := Aside0.mk hA9
      clear hA9
      have hbl := HA.out.hbl
      have n1 : ba ≠ w.heap.size + 1 + 1 := by omega
      have n2 : w.heap.size + 1 + 1 ≠ ba := by omega
      have HV := Aside0.mk hvv
      clear hvv
      go_wp2_with fail
      clear r0 r1 g0 g1 a0 a1 f0
      have hbr2 := blk_set (blk_set HA9.out.hbr 0 (.int .i64 vv)) 1 (.slice (some ⟨gA, 0, none⟩) m cap)
      have t0 := blk_cell hbr2 0
      have t1 := blk_cell hbr2 1
      have e1 : attrP n G c self = (vv, acc0.2) := by unfold attrP; rw [HF.out, HV.out]
      have hR : Kd.R (Kd.int .i64) 3 (((wr.setCell ⟨ba, 0, none⟩ (.int .i64 vv)).setCell ⟨w.heap.size + 1 + 1, 0, none⟩ (.int .i64 vv)).setCell ⟨w.heap.size + 1 + 1, 1, none⟩ (.slice (some ⟨gA, 0, none⟩) m cap)) w.heap.size (fun _ => True) (.slice (some ⟨gA, 0, none⟩) m cap) acc0.2 := R_kinds HA9.out.hde (fun k cs q hq hk => by
        have hne : k ≠ w.heap.size + 1 + 1 := fun e => by
          rw [e, HA9.out.hbr] at hk
          cases hk
          revert hq
          decide
        rw [Below.heap_setCell _ ⟨w.heap.size + 1 + 1, 1, none⟩ _ k hne, Below.heap_setCell _ ⟨w.heap.size + 1 + 1, 0, none⟩ _ k hne])
      have hB : Below w.heap.size w (((wr.setCell ⟨ba, 0, none⟩ (.int .i64 vv)).setCell ⟨w.heap.size + 1 + 1, 0, none⟩ (.int .i64 vv)).setCell ⟨w.heap.size + 1 + 1, 1, none⟩ (.slice (some ⟨gA, 0, none⟩) m cap)) := (HA9.out.hbe.setCell (by show w.heap.size ≤ w.heap.size + 1 + 1; omega) _).setCell (by show w.heap.size ≤ w.heap.size + 1 + 1; omega) _
      have HR := Aside0.mk hR
      have HB := Aside0.mk hB
      have HE1 := Aside0.mk e1
      clear hR hB e1
      exact bodyPost_ret (v := .agg #[.int .i64 vv, .slice (some ⟨gA, 0, none⟩) m cap]) (by simp [results, Try.results16, go_sem, t0, t1]) rfl ⟨_, by rw [HE1.out], by rw [HE1.out]; exact HR.out, HB.out⟩
end
section
open Go.Proofs.Ytgenfbpaooeofaa.M
/-- by one that is known -/
def oneP (n : Int) (k : S29) (c : S24) (self : S26) : Int × List Int := attrP n (putP n [] (fun _ => []) k).2 c self
def stepO (n : Int) (c : S24) (self : S26) (a : Int × List Int) (k : S29) : Int × List Int := (mx a.1 (oneP n k c self).1, List.zipWith mx a.2 (oneP n k c self).2)
def ofP (n : Int) (l : List S29) (c : S24) (self : S26) : Int × List Int := l.foldl (stepO n c self) (attrP n (fun _ => []) c self)
/-- what is behind any key may be known -/
def GB (n : Int) (G : S57 → List (S26 × Int)) : Prop := ∀ K p, p ∈ G K → 1 ≤ p.1.f0 ∧ p.1.f0 ≤ n
theorem GB.nil (n : Int) : GB n (fun _ => []) := fun K p hp => by simp at hp
theorem mem_put {α β : Type} [DecidableEq α] {L : List (α × β)} {a : α} {v : β} {p : α × β} (h : p ∈ put L a v) : p = (a, v) ∨ p ∈ L := by
  unfold put at h
  split at h
  · obtain ⟨q, hq, e⟩ := List.mem_map.1 h
    split at e
    · exact Or.inl e.symm
    · exact Or.inr (e ▸ hq)
  · rcases List.mem_append.1 h with h | h
    · exact Or.inr h
    · exact Or.inl (by simpa using h)
theorem GB.foldDel {n : Int} {i : S26} : ∀ (l : List S57) {G : S57 → List (S26 × Int)}, GB n G → GB n (l.foldl (delG i) G)
  | [], _, h => h
  | K :: l, G, h => by
    rw [List.foldl_cons]
    refine GB.foldDel l (fun K' p hp => ?_)
    unfold delG at hp
    split at hp
    · exact h K' p (List.mem_filter.1 hp).1
    · exact h K' p hp
theorem GB.foldPut {n : Int} {i : S26} (hi : 1 ≤ i.f0 ∧ i.f0 ≤ n) {s : Int} : ∀ (l : List S57) {G : S57 → List (S26 × Int)}, GB n G → GB n (l.foldl (putG i s) G)
  | [], _, h => h
  | K :: l, G, h => by
    rw [List.foldl_cons]
    refine GB.foldPut hi l (fun K' p hp => ?_)
    unfold putG at hp
    split at hp
    · rcases mem_put hp with rfl | hp
      · exact hi
      · exact h K' p hp
    · exact h K' p hp
theorem GB.putP {n : Int} {D : List (S26 × S29)} {G : S57 → List (S26 × Int)} (h : GB n G) (k : S29) : GB n (putP n D G k).2 := by
  unfold Go.Proofs.Ytgenfbpaooeofaa.P.putP
  split
  · rename_i hm
    refine GB.foldPut ?_ _ (GB.foldDel _ h)
    unfold mayI at hm
    simp only [Bool.and_eq_true, decide_eq_true_eq] at hm
    exact ⟨hm.1.1.1, hm.1.1.2⟩
  · exact h
theorem bnd_in (n : Int) : 1 ≤ bnd n ∧ bnd n ≤ 7 := by unfold bnd mn mx; omega
theorem step_len (sf : S26) : ∀ (l : List (S26 × Int)) (a : Int × List Int), (l.foldl (stepA sf) a).2.length = a.2.length
  | [], _ => rfl
  | p :: l, a => by
    rw [List.foldl_cons, step_len sf l]
    unfold stepA
    split
    · rfl
    · simp
theorem attr_len (n : Int) (G : S57 → List (S26 × Int)) (c : S24) (sf : S26) : (attrP n G c sf).2.length = n.toNat := by
  unfold attrP foldA
  rw [step_len]
  simp
/-- the blocks of a call of Of -/
structure OfIn (w wr : World) (c : S24) (sf : S26) (ba gA m cap : Nat) (a : Int × List Int) : Prop where
  hbc : wr.heap[w.heap.size]? = some (.cells #[.int .i64 c.f0, .int .i64 c.f1, .int .i64 c.f2, .int .i64 c.f3, .int .i64 c.f4, .string c.f5] 24 (0, 0))
  hbs : wr.heap[w.heap.size + 1]? = some (.cells #[.int .i64 sf.f0, .int .i64 sf.f1] 26 (0, 0))
  hbr : wr.heap[w.heap.size + 2]? = some (.cells #[.int .i64 0, .slice none 0 0] 32 (0, 0))
  hba : wr.heap[ba]? = some (.cells #[.int .i64 a.1, .slice (some ⟨gA, 0, none⟩) m cap] 32 (0, 0))
  hbl : w.heap.size + 2 < ba
  hde : Kd.R (Kd.int .i64) 3 wr w.heap.size (fun _ => True) (.slice (some ⟨gA, 0, none⟩) m cap) a.2
  hln : a.2.length = m
  hbe : Below w.heap.size w wr
section
variable {w wr : World} {c : S24} {sf : S26} {ba gA m cap : Nat} {a : Int × List Int}
theorem OfIn.below (h : OfIn w wr c sf ba gA m cap a) {w2 : World} (hb : Below wr.heap.size wr w2) : OfIn w w2 c sf ba gA m cap a :=
  ⟨(hb.block _ (blk_lt h.hbc)).trans h.hbc, (hb.block _ (blk_lt h.hbs)).trans h.hbs, (hb.block _ (blk_lt h.hbr)).trans h.hbr, (hb.block _ (blk_lt h.hba)).trans h.hba, h.hbl, Kd.R_below h.hde hb, h.hln, below_step h.hbe hb⟩
/-- the greatest number has been written -/
theorem OfIn.seq (h : OfIn w wr c sf ba gA m cap a) (v : Int) : OfIn w (wr.setCell ⟨ba, 0, none⟩ (.int .i64 v)) c sf ba gA m cap (v, a.2) := by
  have hf : ∀ i, i ≠ ba → (wr.setCell ⟨ba, 0, none⟩ (.int .i64 v)).heap[i]? = wr.heap[i]? := fun i hi => Below.heap_setCell wr ⟨ba, 0, none⟩ _ i hi
  have hl := h.hbl
  refine ⟨(hf _ (by omega)).trans h.hbc, (hf _ (by omega)).trans h.hbs, (hf _ (by omega)).trans h.hbr, ?_, h.hbl, ?_, h.hln, ?_⟩
  · exact blk_set h.hba 0 _
  · exact R_kinds h.hde (fun k cs q hq hk => hf k (fun e => by
      rw [e, h.hba] at hk
      cases hk
      simp [Kd.int, Kd.scalar] at hq))
  · exact h.hbe.setCell (by show w.heap.size ≤ ba; omega) _
/-- .. and the slot of a replica -/
theorem OfIn.dep (h : OfIn w wr c sf ba gA m cap a) (i : Int) (v : Int) (hm : 0 < m) : OfIn w (wr.setCell ⟨gA, i.toNat, none⟩ (.int .i64 v)) c sf ba gA m cap (a.1, a.2.set i.toNat v) := by
  have hf : ∀ j, j ≠ gA → (wr.setCell ⟨gA, i.toNat, none⟩ (.int .i64 v)).heap[j]? = wr.heap[j]? := fun j hi => Below.heap_setCell wr ⟨gA, i.toNat, none⟩ _ j hi
  obtain ⟨g', cap', he, hgb, hgl, cs, hc⟩ := Kd.R_form h.hde (by rw [h.hln]; exact hm)
  have hgg : g' = gA := by
    injection he with e1 e2 e3
    injection e1 with e1
    injection e1 with e1
    exact e1.symm
  subst hgg
  have hp := Kd.R_putn h.hde i v
  refine ⟨(hf _ (blk_ne h.hbc hc (by decide))).trans h.hbc, (hf _ (blk_ne h.hbs hc (by decide))).trans h.hbs, (hf _ (blk_ne h.hbr hc (by decide))).trans h.hbr, (hf _ (blk_ne h.hba hc (by decide))).trans h.hba, h.hbl, hp, by rw [List.length_set]; exact h.hln, ?_⟩
  exact h.hbe.setCell hgb _
/-- an index of its own has turned: its blocks are new ones -/
theorem OfIn.kept (h : OfIn w wr c sf ba gA m cap a) {wx w2 : World} {own : Nat → Prop} (hx : OfIn w wx c sf ba gA m cap a) (hle : wr.heap.size ≤ wx.heap.size) (hb : Kept own wx w2) (ho : ∀ i, own i → wr.heap.size ≤ i) (hxb : Below wr.heap.size wr wx) : OfIn w w2 c sf ba gA m cap a := by
  have hB : Below wr.heap.size wr w2 := hxb.trans (hb.below hle ho)
  exact h.below hB
end
theorem OfIn.startA {w W0 wT : World} {c : S24} {sf : S26} {gT m cap : Nat} {a : Int × List Int} {B : Nat}
    (M1 : W0.heap[w.heap.size]? = some (.cells #[.int .i64 c.f0, .int .i64 c.f1, .int .i64 c.f2, .int .i64 c.f3, .int .i64 c.f4, .string c.f5] 24 (0, 0))) (M2 : W0.heap[w.heap.size + 1]? = some (.cells #[.int .i64 sf.f0, .int .i64 sf.f1] 26 (0, 0))) (M3 : W0.heap[w.heap.size + 2]? = some (.cells #[.int .i64 0, .slice none 0 0] 32 (0, 0)))
    (hsz : W0.heap.size = w.heap.size + 3) (hB : Below w.heap.size w W0) (hT : Below W0.heap.size W0 wT) (hR : Kd.R (Kd.int .i64) 3 wT B (fun _ => True) (.slice (some ⟨gT, 0, none⟩) m cap) a.2) (hBl : w.heap.size ≤ B) (hln : a.2.length = m) :
    OfIn w (wT.alloc (.cells #[.int .i64 a.1, .slice (some ⟨gT, 0, none⟩) m cap] 32)) c sf wT.heap.size gT m cap a := by
  have hb := below_alloc (Below.refl wT.heap.size wT) (.cells #[.int .i64 a.1, .slice (some ⟨gT, 0, none⟩) m cap] 32)
  have hn := heap_alloc_new wT (.cells #[.int .i64 a.1, .slice (some ⟨gT, 0, none⟩) m cap] 32)
  have h0 : Below W0.heap.size W0 (wT.alloc (.cells #[.int .i64 a.1, .slice (some ⟨gT, 0, none⟩) m cap] 32)) := below_step hT hb
  have hs := hT.size
  exact ⟨(h0.block _ (by omega)).trans M1, (h0.block _ (by omega)).trans M2, (h0.block _ (by omega)).trans M3, hn, by omega, Kd.R_lower (Kd.R_below hR hb) hBl, hln, below_step hB h0⟩
theorem OfIn.startB {w W0 wT : World} {c : S24} {sf : S26} {ga gT m cap : Nat} {a : Int × List Int} {B : Nat}
    (M1 : W0.heap[w.heap.size]? = some (.cells #[.int .i64 c.f0, .int .i64 c.f1, .int .i64 c.f2, .int .i64 c.f3, .int .i64 c.f4, .string c.f5] 24 (0, 0))) (M2 : W0.heap[w.heap.size + 1]? = some (.cells #[.int .i64 sf.f0, .int .i64 sf.f1] 26 (0, 0))) (M3 : W0.heap[w.heap.size + 2]? = some (.cells #[.int .i64 0, .slice none 0 0] 32 (0, 0)))
    (hsz : W0.heap.size = w.heap.size + 3) (hB : Below w.heap.size w W0) (hT : Below W0.heap.size W0 wT) (hR : Kd.R (Kd.int .i64) 3 wT B (fun _ => True) (.slice (some ⟨gT, 0, none⟩) m cap) a.2) (hBl : w.heap.size ≤ B) (hln : a.2.length = m)
    (hZ : wT.heap[ga]? = some (.cells #[.int .i64 0, .slice none 0 0] 32 (0, 0))) (hga : W0.heap.size ≤ ga) :
    OfIn w ((wT.setCell ⟨ga, 0, none⟩ (.int .i64 a.1)).setCell ⟨ga, 1, none⟩ (.slice (some ⟨gT, 0, none⟩) m cap)) c sf ga gT m cap a := by
  have hf : ∀ i, i ≠ ga → ((wT.setCell ⟨ga, 0, none⟩ (.int .i64 a.1)).setCell ⟨ga, 1, none⟩ (.slice (some ⟨gT, 0, none⟩) m cap)).heap[i]? = wT.heap[i]? := fun i hi => (Below.heap_setCell _ ⟨ga, 1, none⟩ _ i hi).trans (Below.heap_setCell wT ⟨ga, 0, none⟩ _ i hi)
  have h0 : Below W0.heap.size W0 ((wT.setCell ⟨ga, 0, none⟩ (.int .i64 a.1)).setCell ⟨ga, 1, none⟩ (.slice (some ⟨gT, 0, none⟩) m cap)) := (hT.setCell hga _).setCell hga _
  refine ⟨(h0.block _ (by omega)).trans M1, (h0.block _ (by omega)).trans M2, (h0.block _ (by omega)).trans M3, blk_set (blk_set hZ 0 _) 1 _, by omega, Kd.R_lower (R_kinds hR (fun k cs q hq hk => hf k (fun e => ?_))) hBl, hln, below_step hB h0⟩
  rw [e, hZ] at hk
  cases hk
  revert hq
  decide
/-- the greater ones of the first j -/
def zipTo (j : Nat) (a b : List Int) : List Int := (List.range a.length).map (fun i => if i < j then mx (rd a i) (rd b i) else rd a i)
theorem zipTo_len (j : Nat) (a b : List Int) : (zipTo j a b).length = a.length := by simp [zipTo]
theorem rd_nat (a : List Int) (i : Nat) (h : i < a.length) : rd a (i : Int) = a[i] := by
  unfold rd; simp [List.getD_eq_getElem?_getD, List.getElem?_eq_getElem h]
theorem zipTo_zero (a b : List Int) : zipTo 0 a b = a := by
  apply List.ext_getElem
  · simp [zipTo]
  · intro i h1 h2
    simp [zipTo, rd_nat a i h2]
theorem zipTo_rd (j : Nat) (a b : List Int) (i : Nat) (hi : i < a.length) : rd (zipTo j a b) (i : Int) = if i < j then mx (rd a i) (rd b i) else rd a i := by
  rw [rd_nat _ i (by rw [zipTo_len]; exact hi)]
  simp [zipTo]
theorem zipTo_step (j : Nat) (a b : List Int) (hj : j < a.length) : (zipTo j a b).set j (mx (rd (zipTo j a b) (j : Int)) (rd b (j : Int))) = zipTo (j + 1) a b := by
  rw [zipTo_rd _ _ _ j hj, if_neg (Nat.lt_irrefl j)]
  apply List.ext_getElem
  · simp [zipTo]
  · intro i h1 h2
    rw [List.getElem_set]
    simp only [zipTo, List.getElem_map, List.getElem_range]
    by_cases h : j = i
    · subst h; rw [if_pos rfl, if_pos (by omega)]
    · rw [if_neg h]
      by_cases h3 : i < j
      · rw [if_pos h3, if_pos (by omega)]
      · rw [if_neg h3, if_neg (by omega)]
theorem zipTo_all (a b : List Int) (h : a.length = b.length) : zipTo a.length a b = List.zipWith mx a b := by
  apply List.ext_getElem
  · simp [zipTo, h]
  · intro i h1 h2
    have hi : i < a.length := by rw [zipTo_len] at h1; exact h1
    simp [zipTo, hi, rd_nat a i hi, rd_nat b i (by omega)]
attribute [local go_sem high] max2_mx max_two
theorem three (w : World) (o1 o2 o3 : Obj) : Aside0 ((((w.alloc o1).alloc o2).alloc o3).heap[w.heap.size]? = some o1) ∧ Aside0 ((((w.alloc o1).alloc o2).alloc o3).heap[w.heap.size + 1]? = some o2) ∧ Aside0 ((((w.alloc o1).alloc o2).alloc o3).heap[w.heap.size + 2]? = some o3) ∧
    Aside0 ((((w.alloc o1).alloc o2).alloc o3).heap.size = w.heap.size + 3) ∧ Aside0 (Below w.heap.size w (((w.alloc o1).alloc o2).alloc o3)) := by
  have n1 := heap_alloc_new w o1
  have hs1 : (w.alloc o1).heap.size = w.heap.size + 1 := by simp
  have hb1 := below_alloc (Below.refl w.heap.size w) o1
  generalize w.alloc o1 = w1 at *
  have n2 := heap_alloc_new w1 o2
  have hs2 : (w1.alloc o2).heap.size = w1.heap.size + 1 := by simp
  have hb2 := below_alloc (Below.refl w1.heap.size w1) o2
  generalize w1.alloc o2 = w2 at *
  have n3 := heap_alloc_new w2 o3
  have hs3 : (w2.alloc o3).heap.size = w2.heap.size + 1 := by simp
  have hb3 := below_alloc (Below.refl w2.heap.size w2) o3
  generalize w2.alloc o3 = w3 at *
  rw [hs1] at n2
  rw [hs2, hs1] at n3
  exact ⟨⟨(hb3.block _ (by omega)).trans ((hb2.block _ (by omega)).trans n1)⟩, ⟨(hb3.block _ (by omega)).trans n2⟩, ⟨n3⟩, ⟨by omega⟩, ⟨below_step hb1 (below_step hb2 hb3)⟩⟩
set_option maxHeartbeats 8000000 in
set_option maxRecDepth 100000 in
theorem index_Of_calls (A0 : Option Addr) (c0 : Nat) (l0 : List S29) (c : S24) (self : S26) (a3 : Int) (w : World) (hr0 : Kd.C k29 w A0 l0.length l0) (hc0 : l0.length ≤ c0) :
    Calls Try.prog 10 #[.slice A0 l0.length c0, .agg #[.int .i64 c.f0, .int .i64 c.f1, .int .i64 c.f2, .int .i64 c.f3, .int .i64 c.f4, .string c.f5], .agg #[.int .i64 self.f0, .int .i64 self.f1], .int .i64 a3] w fun e w' => ∃ v1_ : Value, e = .returned (.agg #[.int .i64 (ofP (bnd a3) l0 c self).1, v1_]) ∧ Kd.R (Kd.int .i64) 3 w' w.heap.size (fun _ => True) v1_ (ofP (bnd a3) l0 c self).2 ∧ Below w.heap.size w w' := by
  have hu29 := Try.underlying29
  have hu22 := Try.underlying22
  have HR0 := Aside0.mk hr0
  have hlen : l0.length ≤ 9223372036854775807 := hr0.2.1
  clear hr0
  obtain ⟨M1, M2, M3, HSZ, HB⟩ := three w (.cells #[.int .i64 c.f0, .int .i64 c.f1, .int .i64 c.f2, .int .i64 c.f3, .int .i64 c.f4, .string c.f5] 24) (.cells #[.int .i64 self.f0, .int .i64 self.f1] 26) (.cells #[.int .i64 0, .slice none 0 0] 32)
  go_enter Try.func10, Try.ntmps10
  go_wp2_with fail
  generalize ((w.alloc (.cells #[.int .i64 c.f0, .int .i64 c.f1, .int .i64 c.f2, .int .i64 c.f3, .int .i64 c.f4, .string c.f5] 24)).alloc (.cells #[.int .i64 self.f0, .int .i64 self.f1] 26)).alloc (.cells #[.int .i64 0, .slice none 0 0] 32) = W0 at M1 M2 M3 HSZ HB ⊢
  have hS : ∀ w', Below W0.heap.size W0 w' → w'.cell? ⟨w.heap.size, 0, none⟩ = some (.int .i64 c.f0) ∧ w'.cell? ⟨w.heap.size, 1, none⟩ = some (.int .i64 c.f1) ∧ w'.cell? ⟨w.heap.size, 2, none⟩ = some (.int .i64 c.f2) ∧ w'.cell? ⟨w.heap.size, 3, none⟩ = some (.int .i64 c.f3) ∧ w'.cell? ⟨w.heap.size, 4, none⟩ = some (.int .i64 c.f4) ∧ w'.cell? ⟨w.heap.size, 5, none⟩ = some (.string c.f5) ∧ w'.cell? ⟨w.heap.size + 1, 0, none⟩ = some (.int .i64 self.f0) ∧ w'.cell? ⟨w.heap.size + 1, 1, none⟩ = some (.int .i64 self.f1) := fun w' hb =>
    ⟨pw_cell_below hb (blk_cell M1.out 0), pw_cell_below hb (blk_cell M1.out 1), pw_cell_below hb (blk_cell M1.out 2), pw_cell_below hb (blk_cell M1.out 3), pw_cell_below hb (blk_cell M1.out 4), pw_cell_below hb (blk_cell M1.out 5), pw_cell_below hb (blk_cell M2.out 0), pw_cell_below hb (blk_cell M2.out 1)⟩
  have hcap : 0 < (bnd a3).toNat := by have := bnd_in a3; omega
  go_region_held3 (fun w' => w'.cell? ⟨w.heap.size, 0, none⟩ = some (.int .i64 c.f0) ∧ w'.cell? ⟨w.heap.size, 1, none⟩ = some (.int .i64 c.f1) ∧ w'.cell? ⟨w.heap.size, 2, none⟩ = some (.int .i64 c.f2) ∧ w'.cell? ⟨w.heap.size, 3, none⟩ = some (.int .i64 c.f3) ∧ w'.cell? ⟨w.heap.size, 4, none⟩ = some (.int .i64 c.f4) ∧ w'.cell? ⟨w.heap.size, 5, none⟩ = some (.string c.f5) ∧ w'.cell? ⟨w.heap.size + 1, 0, none⟩ = some (.int .i64 self.f0) ∧ w'.cell? ⟨w.heap.size + 1, 1, none⟩ = some (.int .i64 self.f1)) (exact hS _ (by repeat (first | exact Below.refl _ _ | assumption | apply below_drew | apply below_alloc | (refine Below.setCell ?_ (by first | exact hN0.size | exact Nat.le_refl _) _))))
    (first
      | (go_at_call 13; refine (index_New.calls a3 _).mono ?_; rintro e wN ⟨gx, own, rfl, hIX, hown, hbN⟩; have hN0 : Below W0.heap.size W0 wN := below_step (by repeat (first | exact Below.refl _ _ | apply below_drew | apply below_alloc)) hbN; (try have HZ := (hbN.block W0.heap.size (by simp)).trans (heap_alloc_new W0 (.cells #[.int .i64 0, .slice none 0 0] 32))))
      | (go_at_call 16; refine (index_Attr.calls gx own (bnd a3) [] (fun _ => []) c self _ (by first | exact hIX | exact hIX.below (below_alloc (Below.refl _ _) _)) (bnd_in a3) (GB.nil _)).mono ?_; rintro e wT ⟨vT, rfl, hRT, hbT⟩; obtain ⟨gT, capT, rfl, hgb_, hgl_, cs_, hcs_⟩ := Kd.R_form hRT (by rw [attr_len]; exact hcap); rw [attr_len] at hRT ⊢; clear hgb_ hgl_ hcs_ cs_; have hT0 : Below W0.heap.size W0 wT := below_step (by repeat (first | exact hN0 | apply below_drew | apply below_alloc)) hbT;
          (first | (have HZ2 := (hbT.block _ (blk_lt HZ)).trans HZ; have zc0 := blk_cell HZ2 0; have zc1 := blk_cell HZ2 1; have zf0 := blk_frozen HZ2 0; have zf1 := blk_frozen HZ2 1) | (have HZ2 := (hbT.block wN.heap.size (by simp)).trans (heap_alloc_new wN (.cells #[.int .i64 0, .slice none 0 0] 32)); have zc0 := blk_cell HZ2 0; have zc1 := blk_cell HZ2 1; have zf0 := blk_frozen HZ2 0; have zf1 := blk_frozen HZ2 1) | skip)))
  · rename_i hHeld_
    clear hHeld_ hS
    have hX := OfIn.startA (c := c) (sf := self) (a := attrP (bnd a3) (fun _ => []) c self) M1.out M2.out M3.out HSZ.out HB.out hT0 hRT (by have h1_ := HSZ.out; have h2_ := hN0.size; first | omega | (simp; omega)) (attr_len _ _ _ _)
    generalize wT.alloc (.cells #[.int .i64 (attrP (bnd a3) (fun _ => []) c self).1, .slice (some ⟨gT, 0, none⟩) (bnd a3).toNat capT] 32) = X at hX ⊢
    clear hRT hT0 hbT hbN hN0 hown hIX HSZ HB M1 M2 M3
    generalize wT.heap.size = ga at hX ⊢
    obtain ⟨acc, hacc⟩ : ∃ acc, attrP (bnd a3) (fun _ => []) c self = acc := ⟨_, rfl⟩
    rw [hacc] at hX ⊢
    have HAC := Aside0.mk hacc
    have HX := Aside0.mk hX
    obtain ⟨m, hm⟩ : ∃ m, (bnd a3).toNat = m := ⟨_, rfl⟩
    rw [hm] at HX hcap ⊢
    have HM := Aside0.mk hm
    clear hacc hX hm
    go_wp2_with fail
    go_loopw [23] (fun v23 wr => ∃ (i : Nat) (acc1 : Int × List Int), i ≤ l0.length ∧ v23 = .int .i64 i ∧ Aside0 (OfIn w wr c self ga gT m capT acc1) ∧ Aside0 (acc1 = (l0.take i).foldl (stepO (bnd a3) c self) acc)) (fun v23 _ => l0.length - (intOf v23).toNat)
    case atStart => exact ⟨0, acc, by omega, rfl, HX, ⟨rfl⟩⟩
    case round =>
      clear HX
      obtain ⟨i, acc1, hi, rfl, HX, HE⟩ := hrel
      by_cases hlt : i < l0.length
      · obtain ⟨ad', e0, hx0, hx1, hx2, hx3, hx4, hx5, hx6, hx7, hx8⟩ := at_T29 (Kd.C_below HR0.out HX.out.hbe) (i : Int) (by omega) (by omega)
        cases e0
        obtain ⟨y, hy⟩ : ∃ y, rd_T29 l0 (i : Int) = y := ⟨_, rfl⟩
        simp only [hy, Int.toNat_natCast] at hx0 hx1 hx2 hx3 hx4 hx5 hx6 hx7 hx8
        have HY : Aside0 (l0[i]'hlt = y) := ⟨by rw [← hy]; unfold rd_T29; simp [List.getD_eq_getElem?_getD, List.getElem?_eq_getElem hlt]⟩
        clear hy
        go_wp2_with fail
        clear hx0 hx1 hx2 hx3 hx4 hx5 hx6 hx7 hx8
        have hnewY := heap_alloc_new wr (.cells #[.int .i64 y.f0.f0, .int .i64 y.f0.f1, .int .i64 y.f1.f0, .int .i64 y.f1.f1, .int .i64 y.f1.f2, .int .i64 y.f1.f3, .int .i64 y.f1.f4, .string y.f1.f5, .int .i64 y.f2] 29)
        have hbY := below_alloc (Below.refl wr.heap.size wr) (.cells #[.int .i64 y.f0.f0, .int .i64 y.f0.f1, .int .i64 y.f1.f0, .int .i64 y.f1.f1, .int .i64 y.f1.f2, .int .i64 y.f1.f3, .int .i64 y.f1.f4, .string y.f1.f5, .int .i64 y.f2] 29)
        have hszY : (wr.alloc (.cells #[.int .i64 y.f0.f0, .int .i64 y.f0.f1, .int .i64 y.f1.f0, .int .i64 y.f1.f1, .int .i64 y.f1.f2, .int .i64 y.f1.f3, .int .i64 y.f1.f4, .string y.f1.f5, .int .i64 y.f2] 29)).heap.size = wr.heap.size + 1 := by simp
        generalize wr.alloc (.cells #[.int .i64 y.f0.f0, .int .i64 y.f0.f1, .int .i64 y.f1.f0, .int .i64 y.f1.f1, .int .i64 y.f1.f2, .int .i64 y.f1.f3, .int .i64 y.f1.f4, .string y.f1.f5, .int .i64 y.f2] 29) = Y at hnewY hbY hszY ⊢
        refine (index_New.calls a3 Y).mono ?_
        rintro e wN ⟨gy, own, rfl, hIX, hown, hbN⟩
        have hNY := (hbN.block _ (blk_lt hnewY)).trans hnewY
        have hbYN : Below wr.heap.size wr wN := below_step hbY hbN
        have y0 := blk_cell hNY 0
        have y1 := blk_cell hNY 1
        have y2 := blk_cell hNY 2
        have y3 := blk_cell hNY 3
        have y4 := blk_cell hNY 4
        have y5 := blk_cell hNY 5
        have y6 := blk_cell hNY 6
        have y7 := blk_cell hNY 7
        have y8 := blk_cell hNY 8
        simp only [List.getElem?_toArray, List.getElem?_cons_zero, List.getElem?_cons_succ] at y0 y1 y2 y3 y4 y5 y6 y7 y8
        have HIX := Aside0.mk hIX
        have HOW : Aside0 (∀ i, own i → wr.heap.size ≤ i) := ⟨fun i hi => by have := hown i hi; omega⟩
        have HBN := Aside0.mk hbYN
        clear hIX hown hbN hbYN hNY hnewY hbY hszY
        go_wp2_with fail
        clear y0 y1 y2 y3 y4 y5 y6 y7 y8
        refine (index_Put.calls gy own (bnd a3) [] (fun _ => []) y wN HIX.out).mono ?_
        rintro e wP ⟨rfl, own', hIP, ho1, ho2, hKP⟩
        have hbP : Below wr.heap.size wr wP := HBN.out.trans (hKP.below HBN.out.size HOW.out)
        have HXP := Aside0.mk (HX.out.below hbP)
        have HIP := Aside0.mk hIP
        have hgl : gT < wr.heap.size := by
          obtain ⟨g', cap', he', hgb', hgl', cs', hcs'⟩ := Kd.R_form HX.out.hde (by rw [HX.out.hln]; exact hcap)
          injection he' with e1 e2 e3
          injection e1 with e1
          injection e1 with e1
          omega
        have hPs : wr.heap.size ≤ wP.heap.size := hbP.size
        have q0 := blk_cell HXP.out.hbc 0
        have q1 := blk_cell HXP.out.hbc 1
        have q2 := blk_cell HXP.out.hbc 2
        have q3 := blk_cell HXP.out.hbc 3
        have q4 := blk_cell HXP.out.hbc 4
        have q5 := blk_cell HXP.out.hbc 5
        have q6 := blk_cell HXP.out.hbs 0
        have q7 := blk_cell HXP.out.hbs 1
        simp only [List.getElem?_toArray, List.getElem?_cons_zero, List.getElem?_cons_succ] at q0 q1 q2 q3 q4 q5 q6 q7
        clear hIP ho1 ho2 hKP hbP HBN HOW HIX HX
        go_wp2_with fail
        clear q0 q1 q2 q3 q4 q5 q6 q7
        refine (index_Attr.calls gy own' (bnd a3) _ _ c self wP HIP.out (bnd_in a3) (GB.putP (GB.nil _) y)).mono ?_
        rintro e wT ⟨vB, rfl, hRB, hbT⟩
        obtain ⟨b, hb⟩ : ∃ b, attrP (bnd a3) (putP (bnd a3) [] (fun _ => []) y).2 c self = b := ⟨_, rfl⟩
        have hbl : b.2.length = m := by rw [← hb, attr_len]; exact HM.out
        have HBQ : Aside0 (oneP (bnd a3) y c self = b) := ⟨hb⟩
        rw [hb] at hRB ⊢
        clear hb
        obtain ⟨gB, capB, rfl, hgb, hgl_, cs_, hcs_⟩ := Kd.R_form hRB (by rw [hbl]; exact hcap)
        rw [hbl] at hRB ⊢
        clear hgl_ hcs_ cs_
        have hbZ := below_alloc (Below.refl wT.heap.size wT) (.cells #[.int .i64 b.1, .slice (some ⟨gB, 0, none⟩) m capB] 32)
        have hnZ := heap_alloc_new wT (.cells #[.int .i64 b.1, .slice (some ⟨gB, 0, none⟩) m capB] 32)
        have hXZ := HXP.out.below (below_step hbT hbZ)
        have hRZ := Kd.R_below hRB hbZ
        have hnz : ga ≠ wT.heap.size := by
          have h1 := blk_lt HXP.out.hba
          have h2 := hbT.size
          omega
        have z0 := blk_cell hXZ.hba 0
        have z1 := blk_frozen hXZ.hba 0
        simp only [List.getElem?_toArray, List.getElem?_cons_zero, List.getElem?_cons_succ] at z0
        have HXZ := Aside0.mk hXZ
        have HRZ := Aside0.mk hRZ
        have HNZ := Aside0.mk hnZ
        clear hXZ hRZ hnZ hbZ hbT hRB HXP HIP
        go_wp2_with fail
        have hX9 := HXZ.out.seq (mx acc1.1 b.1)
        have hf : ∀ i, i ≠ ga → ((wT.alloc (.cells #[.int .i64 b.1, .slice (some ⟨gB, 0, none⟩) m capB] 32)).setCell ⟨ga, 0, none⟩ (.int .i64 (mx acc1.1 b.1))).heap[i]? = (wT.alloc (.cells #[.int .i64 b.1, .slice (some ⟨gB, 0, none⟩) m capB] 32)).heap[i]? := fun i hi => Below.heap_setCell _ ⟨ga, 0, none⟩ _ i hi
        have hR9 : Kd.R (Kd.int .i64) 3 ((wT.alloc (.cells #[.int .i64 b.1, .slice (some ⟨gB, 0, none⟩) m capB] 32)).setCell ⟨ga, 0, none⟩ (.int .i64 (mx acc1.1 b.1))) wP.heap.size (fun _ => True) (.slice (some ⟨gB, 0, none⟩) m capB) b.2 := R_kinds HRZ.out (fun k cs q hq hk => hf k (fun e => by
          rw [e, HXZ.out.hba] at hk
          cases hk
          revert hq
          decide))
        clear hf z0 z1
        generalize (wT.alloc (.cells #[.int .i64 b.1, .slice (some ⟨gB, 0, none⟩) m capB] 32)).setCell ⟨ga, 0, none⟩ (.int .i64 (mx acc1.1 b.1)) = X9 at hX9 hR9 ⊢
        have hln : acc1.2.length = m := hX9.hln
        have HX9 := Aside0.mk hX9
        have HR9 := Aside0.mk hR9
        clear hX9 hR9 HXZ HRZ HNZ hnz
        have hm7 : m ≤ 7 := by have := HM.out; have := bnd_in a3; omega
        go_loopw [45] (fun v45 wr2 => ∃ j : Nat, j ≤ m ∧ v45 = .int .i64 j ∧ Aside0 (OfIn w wr2 c self ga gT m capT (mx acc1.1 b.1, zipTo j acc1.2 b.2)) ∧ Aside0 (Kd.R (Kd.int .i64) 3 wr2 wP.heap.size (fun _ => True) (.slice (some ⟨gB, 0, none⟩) m capB) b.2)) (fun v45 _ => m - (intOf v45).toNat)
        case atStart => exact ⟨0, by omega, rfl, ⟨by rw [zipTo_zero]; exact HX9.out⟩, HR9⟩
        case round =>
          clear HX9 HR9
          obtain ⟨j, hj, rfl, HXj, HRj⟩ := hrel
          by_cases hlj : j < m
          · obtain ⟨k0, k1⟩ := Kd.R_celln 0 HRj.out (j : Int) (by omega) (by omega)
            obtain ⟨k2, k3⟩ := Kd.R_celln 0 HXj.out.hde (j : Int) (by omega) (by omega)
            simp only [Int.toNat_natCast] at k0 k1 k2 k3
            obtain ⟨bj, hbj⟩ : ∃ bj, rd b.2 (j : Int) = bj := ⟨_, rfl⟩
            obtain ⟨aj, haj⟩ : ∃ aj, rd (zipTo j acc1.2 b.2) (j : Int) = aj := ⟨_, rfl⟩
            have k0' : wr.cell? ⟨gB, j, none⟩ = some (.int .i64 bj) := by rw [← hbj]; exact k0
            have k2' : wr.cell? ⟨gT, j, none⟩ = some (.int .i64 aj) := by rw [← haj]; exact k2
            have k4 := blk_cell HXj.out.hba 1
            simp only [List.getElem?_toArray, List.getElem?_cons_zero, List.getElem?_cons_succ] at k4
            have HBJ := Aside0.mk hbj
            have HAJ := Aside0.mk haj
            clear k0 k1 k2 hbj haj
            go_wp2_with fail
            refine region_tail 11 (by kernel_rfl) (by kernel_rfl) ?_
            simp only [List.take_succ_cons, List.take_zero, List.drop_succ_cons, List.drop_zero]
            repeat still_step
            refine wpStill_nil ?_
            go_wp2_with fail
            have hz := zipTo_step j acc1.2 b.2 (by omega)
            rw [HAJ.out, HBJ.out] at hz
            have hD := HXj.out.dep (j : Int) (mx aj bj) hcap
            simp only [Int.toNat_natCast] at hD
            rw [hz] at hD
            exact ⟨⟨j + 1, by omega, by go_num, ⟨hD.below (below_drew (Below.refl _ _))⟩, ⟨Kd.R_drew (R_up HRj.out (fun k hk _ => Below.heap_setCell _ ⟨gT, j, none⟩ _ k (by show k ≠ gT; omega)))⟩⟩, by simp [intOf]; omega⟩
          · have hjm : j = m := by omega
            subst hjm
            have HXn : Aside0 (OfIn w wr c self ga gT j capT (mx acc1.1 b.1, List.zipWith mx acc1.2 b.2)) := ⟨by
              have := HXj.out
              rw [show zipTo j acc1.2 b.2 = List.zipWith mx acc1.2 b.2 by rw [← hln]; exact zipTo_all _ _ (by omega)] at this
              exact this⟩
            have HEn : Aside0 ((mx acc1.1 b.1, List.zipWith mx acc1.2 b.2) = (l0.take (i + 1)).foldl (stepO (bnd a3) c self) acc) := ⟨by
              rw [foldl_take _ _ _ _ hlt y HY.out, ← HE.out]
              unfold stepO
              rw [HBQ.out]⟩
            clear HXj HRj
            go_wp2_with fail
            go_roundw
            case rel => exact ⟨i + 1, _, by omega, by go_num, HXn, HEn⟩
            case measure => simp [intOf]; omega
      · have hil : i = l0.length := by omega
        subst hil
        have HF : Aside0 (ofP (bnd a3) l0 c self = acc1) := ⟨by
          unfold ofP
          rw [HAC.out, HE.out, List.take_length]⟩
        have a0 := blk_cell HX.out.hba 0
        have a1 := blk_cell HX.out.hba 1
        have g0 := blk_frozen HX.out.hbr 0
        have g1 := blk_frozen HX.out.hbr 1
        have r0 := blk_cell HX.out.hbr 0
        have r1 := blk_cell HX.out.hbr 1
        simp only [List.getElem?_toArray, List.getElem?_cons_zero, List.getElem?_cons_succ] at a0 a1 r0 r1
        have hbl := HX.out.hbl
        have n1 : ga ≠ w.heap.size + 1 + 1 := by omega
        have n2 : w.heap.size + 1 + 1 ≠ ga := by omega
        go_wp2_with fail
        clear r0 r1 g0 g1 a0 a1
        have hbr2 := blk_set (blk_set HX.out.hbr 0 (.int .i64 acc1.1)) 1 (.slice (some ⟨gT, 0, none⟩) m capT)
        have t0 := blk_cell hbr2 0
        have t1 := blk_cell hbr2 1
        have hR : Kd.R (Kd.int .i64) 3 ((wr.setCell ⟨w.heap.size + 1 + 1, 0, none⟩ (.int .i64 acc1.1)).setCell ⟨w.heap.size + 1 + 1, 1, none⟩ (.slice (some ⟨gT, 0, none⟩) m capT)) w.heap.size (fun _ => True) (.slice (some ⟨gT, 0, none⟩) m capT) acc1.2 := R_kinds HX.out.hde (fun k cs q hq hk => by
          have hne : k ≠ w.heap.size + 1 + 1 := fun e => by
            rw [e, HX.out.hbr] at hk
            cases hk
            revert hq
            decide
          rw [Below.heap_setCell _ ⟨w.heap.size + 1 + 1, 1, none⟩ _ k hne, Below.heap_setCell _ ⟨w.heap.size + 1 + 1, 0, none⟩ _ k hne])
        have hB : Below w.heap.size w ((wr.setCell ⟨w.heap.size + 1 + 1, 0, none⟩ (.int .i64 acc1.1)).setCell ⟨w.heap.size + 1 + 1, 1, none⟩ (.slice (some ⟨gT, 0, none⟩) m capT)) := (HX.out.hbe.setCell (by show w.heap.size ≤ w.heap.size + 1 + 1; omega) _).setCell (by show w.heap.size ≤ w.heap.size + 1 + 1; omega) _
        have HR := Aside0.mk hR
        have HB := Aside0.mk hB
        clear hR hB
        exact bodyPost_ret (v := .agg #[.int .i64 acc1.1, .slice (some ⟨gT, 0, none⟩) m capT]) (by simp [results, Try.results10, go_sem, t0, t1]) rfl ⟨_, by rw [HF.out], by rw [HF.out]; exact HR.out, HB.out⟩
  · rename_i hHeld_
    clear hHeld_ hS
    have hX := OfIn.startB (c := c) (sf := self) (a := attrP (bnd a3) (fun _ => []) c self) M1.out M2.out M3.out HSZ.out HB.out hT0 hRT (by have h1_ := HSZ.out; have h2_ := hN0.size; first | omega | (simp; omega)) (attr_len _ _ _ _) HZ2 hN0.size
    generalize (wT.setCell ⟨wN.heap.size, 0, none⟩ (.int .i64 (attrP (bnd a3) (fun _ => []) c self).1)).setCell ⟨wN.heap.size, 1, none⟩ (.slice (some ⟨gT, 0, none⟩) (bnd a3).toNat capT) = X at hX ⊢
    clear hRT hT0 hbT hbN hN0 hown hIX HSZ HB M1 M2 M3 HZ2 zc0 zc1 zf0 zf1
    generalize wN.heap.size = ga at hX ⊢
    obtain ⟨acc, hacc⟩ : ∃ acc, attrP (bnd a3) (fun _ => []) c self = acc := ⟨_, rfl⟩
    rw [hacc] at hX ⊢
    have HAC := Aside0.mk hacc
    have HX := Aside0.mk hX
    obtain ⟨m, hm⟩ : ∃ m, (bnd a3).toNat = m := ⟨_, rfl⟩
    rw [hm] at HX hcap ⊢
    have HM := Aside0.mk hm
    clear hacc hX hm
    go_wp2_with fail
    go_loopw [23] (fun v23 wr => ∃ (i : Nat) (acc1 : Int × List Int), i ≤ l0.length ∧ v23 = .int .i64 i ∧ Aside0 (OfIn w wr c self ga gT m capT acc1) ∧ Aside0 (acc1 = (l0.take i).foldl (stepO (bnd a3) c self) acc)) (fun v23 _ => l0.length - (intOf v23).toNat)
    case atStart => exact ⟨0, acc, by omega, rfl, HX, ⟨rfl⟩⟩
    case round =>
      clear HX
      obtain ⟨i, acc1, hi, rfl, HX, HE⟩ := hrel
      by_cases hlt : i < l0.length
      · obtain ⟨ad', e0, hx0, hx1, hx2, hx3, hx4, hx5, hx6, hx7, hx8⟩ := at_T29 (Kd.C_below HR0.out HX.out.hbe) (i : Int) (by omega) (by omega)
        cases e0
        obtain ⟨y, hy⟩ : ∃ y, rd_T29 l0 (i : Int) = y := ⟨_, rfl⟩
        simp only [hy, Int.toNat_natCast] at hx0 hx1 hx2 hx3 hx4 hx5 hx6 hx7 hx8
        have HY : Aside0 (l0[i]'hlt = y) := ⟨by rw [← hy]; unfold rd_T29; simp [List.getD_eq_getElem?_getD, List.getElem?_eq_getElem hlt]⟩
        clear hy
        go_wp2_with fail
        clear hx0 hx1 hx2 hx3 hx4 hx5 hx6 hx7 hx8
        have hnewY := heap_alloc_new wr (.cells #[.int .i64 y.f0.f0, .int .i64 y.f0.f1, .int .i64 y.f1.f0, .int .i64 y.f1.f1, .int .i64 y.f1.f2, .int .i64 y.f1.f3, .int .i64 y.f1.f4, .string y.f1.f5, .int .i64 y.f2] 29)
        have hbY := below_alloc (Below.refl wr.heap.size wr) (.cells #[.int .i64 y.f0.f0, .int .i64 y.f0.f1, .int .i64 y.f1.f0, .int .i64 y.f1.f1, .int .i64 y.f1.f2, .int .i64 y.f1.f3, .int .i64 y.f1.f4, .string y.f1.f5, .int .i64 y.f2] 29)
        have hszY : (wr.alloc (.cells #[.int .i64 y.f0.f0, .int .i64 y.f0.f1, .int .i64 y.f1.f0, .int .i64 y.f1.f1, .int .i64 y.f1.f2, .int .i64 y.f1.f3, .int .i64 y.f1.f4, .string y.f1.f5, .int .i64 y.f2] 29)).heap.size = wr.heap.size + 1 := by simp
        generalize wr.alloc (.cells #[.int .i64 y.f0.f0, .int .i64 y.f0.f1, .int .i64 y.f1.f0, .int .i64 y.f1.f1, .int .i64 y.f1.f2, .int .i64 y.f1.f3, .int .i64 y.f1.f4, .string y.f1.f5, .int .i64 y.f2] 29) = Y at hnewY hbY hszY ⊢
        refine (index_New.calls a3 Y).mono ?_
        rintro e wN ⟨gy, own, rfl, hIX, hown, hbN⟩
        have hNY := (hbN.block _ (blk_lt hnewY)).trans hnewY
        have hbYN : Below wr.heap.size wr wN := below_step hbY hbN
        have y0 := blk_cell hNY 0
        have y1 := blk_cell hNY 1
        have y2 := blk_cell hNY 2
        have y3 := blk_cell hNY 3
        have y4 := blk_cell hNY 4
        have y5 := blk_cell hNY 5
        have y6 := blk_cell hNY 6
        have y7 := blk_cell hNY 7
        have y8 := blk_cell hNY 8
        simp only [List.getElem?_toArray, List.getElem?_cons_zero, List.getElem?_cons_succ] at y0 y1 y2 y3 y4 y5 y6 y7 y8
        have HIX := Aside0.mk hIX
        have HOW : Aside0 (∀ i, own i → wr.heap.size ≤ i) := ⟨fun i hi => by have := hown i hi; omega⟩
        have HBN := Aside0.mk hbYN
        clear hIX hown hbN hbYN hNY hnewY hbY hszY
        go_wp2_with fail
        clear y0 y1 y2 y3 y4 y5 y6 y7 y8
        refine (index_Put.calls gy own (bnd a3) [] (fun _ => []) y wN HIX.out).mono ?_
        rintro e wP ⟨rfl, own', hIP, ho1, ho2, hKP⟩
        have hbP : Below wr.heap.size wr wP := HBN.out.trans (hKP.below HBN.out.size HOW.out)
        have HXP := Aside0.mk (HX.out.below hbP)
        have HIP := Aside0.mk hIP
        have hgl : gT < wr.heap.size := by
          obtain ⟨g', cap', he', hgb', hgl', cs', hcs'⟩ := Kd.R_form HX.out.hde (by rw [HX.out.hln]; exact hcap)
          injection he' with e1 e2 e3
          injection e1 with e1
          injection e1 with e1
          omega
        have hPs : wr.heap.size ≤ wP.heap.size := hbP.size
        have q0 := blk_cell HXP.out.hbc 0
        have q1 := blk_cell HXP.out.hbc 1
        have q2 := blk_cell HXP.out.hbc 2
        have q3 := blk_cell HXP.out.hbc 3
        have q4 := blk_cell HXP.out.hbc 4
        have q5 := blk_cell HXP.out.hbc 5
        have q6 := blk_cell HXP.out.hbs 0
        have q7 := blk_cell HXP.out.hbs 1
        simp only [List.getElem?_toArray, List.getElem?_cons_zero, List.getElem?_cons_succ] at q0 q1 q2 q3 q4 q5 q6 q7
        clear hIP ho1 ho2 hKP hbP HBN HOW HIX HX
        go_wp2_with fail
        clear q0 q1 q2 q3 q4 q5 q6 q7
        refine (index_Attr.calls gy own' (bnd a3) _ _ c self wP HIP.out (bnd_in a3) (GB.putP (GB.nil _) y)).mono ?_
        rintro e wT ⟨vB, rfl, hRB, hbT⟩
        obtain ⟨b, hb⟩ : ∃ b, attrP (bnd a3) (putP (bnd a3) [] (fun _ => []) y).2 c self = b := ⟨_, rfl⟩
        have hbl : b.2.length = m := by rw [← hb, attr_len]; exact HM.out
        have HBQ : Aside0 (oneP (bnd a3) y c self = b) := ⟨hb⟩
        rw [hb] at hRB ⊢
        clear hb
        obtain ⟨gB, capB, rfl, hgb, hgl_, cs_, hcs_⟩ := Kd.R_form hRB (by rw [hbl]; exact hcap)
        rw [hbl] at hRB ⊢
        clear hgl_ hcs_ cs_
        have hbZ := below_alloc (Below.refl wT.heap.size wT) (.cells #[.int .i64 b.1, .slice (some ⟨gB, 0, none⟩) m capB] 32)
        have hnZ := heap_alloc_new wT (.cells #[.int .i64 b.1, .slice (some ⟨gB, 0, none⟩) m capB] 32)
        have hXZ := HXP.out.below (below_step hbT hbZ)
        have hRZ := Kd.R_below hRB hbZ
        have hnz : ga ≠ wT.heap.size := by
          have h1 := blk_lt HXP.out.hba
          have h2 := hbT.size
          omega
        have z0 := blk_cell hXZ.hba 0
        have z1 := blk_frozen hXZ.hba 0
        simp only [List.getElem?_toArray, List.getElem?_cons_zero, List.getElem?_cons_succ] at z0
        have HXZ := Aside0.mk hXZ
        have HRZ := Aside0.mk hRZ
        have HNZ := Aside0.mk hnZ
        clear hXZ hRZ hnZ hbZ hbT hRB HXP HIP
        go_wp2_with fail
        have hX9 := HXZ.out.seq (mx acc1.1 b.1)
        have hf : ∀ i, i ≠ ga → ((wT.alloc (.cells #[.int .i64 b.1, .slice (some ⟨gB, 0, none⟩) m capB] 32)).setCell ⟨ga, 0, none⟩ (.int .i64 (mx acc1.1 b.1))).heap[i]? = (wT.alloc (.cells #[.int .i64 b.1, .slice (some ⟨gB, 0, none⟩) m capB] 32)).heap[i]? := fun i hi => Below.heap_setCell _ ⟨ga, 0, none⟩ _ i hi
        have hR9 : Kd.R (Kd.int .i64) 3 ((wT.alloc (.cells #[.int .i64 b.1, .slice (some ⟨gB, 0, none⟩) m capB] 32)).setCell ⟨ga, 0, none⟩ (.int .i64 (mx acc1.1 b.1))) wP.heap.size (fun _ => True) (.slice (some ⟨gB, 0, none⟩) m capB) b.2 := R_kinds HRZ.out (fun k cs q hq hk => hf k (fun e => by
          rw [e, HXZ.out.hba] at hk
          cases hk
          revert hq
          decide))
        clear hf z0 z1
        generalize (wT.alloc (.cells #[.int .i64 b.1, .slice (some ⟨gB, 0, none⟩) m capB] 32)).setCell ⟨ga, 0, none⟩ (.int .i64 (mx acc1.1 b.1)) = X9 at hX9 hR9 ⊢
        have hln : acc1.2.length = m := hX9.hln
        have HX9 := Aside0.mk hX9
        have HR9 := Aside0.mk hR9
        clear hX9 hR9 HXZ HRZ HNZ hnz
        have hm7 : m ≤ 7 := by have := HM.out; have := bnd_in a3; omega
        go_loopw [45] (fun v45 wr2 => ∃ j : Nat, j ≤ m ∧ v45 = .int .i64 j ∧ Aside0 (OfIn w wr2 c self ga gT m capT (mx acc1.1 b.1, zipTo j acc1.2 b.2)) ∧ Aside0 (Kd.R (Kd.int .i64) 3 wr2 wP.heap.size (fun _ => True) (.slice (some ⟨gB, 0, none⟩) m capB) b.2)) (fun v45 _ => m - (intOf v45).toNat)
        case atStart => exact ⟨0, by omega, rfl, ⟨by rw [zipTo_zero]; exact HX9.out⟩, HR9⟩
        case round =>
          clear HX9 HR9
          obtain ⟨j, hj, rfl, HXj, HRj⟩ := hrel
          by_cases hlj : j < m
          · obtain ⟨k0, k1⟩ := Kd.R_celln 0 HRj.out (j : Int) (by omega) (by omega)
            obtain ⟨k2, k3⟩ := Kd.R_celln 0 HXj.out.hde (j : Int) (by omega) (by omega)
            simp only [Int.toNat_natCast] at k0 k1 k2 k3
            obtain ⟨bj, hbj⟩ : ∃ bj, rd b.2 (j : Int) = bj := ⟨_, rfl⟩
            obtain ⟨aj, haj⟩ : ∃ aj, rd (zipTo j acc1.2 b.2) (j : Int) = aj := ⟨_, rfl⟩
            have k0' : wr.cell? ⟨gB, j, none⟩ = some (.int .i64 bj) := by rw [← hbj]; exact k0
            have k2' : wr.cell? ⟨gT, j, none⟩ = some (.int .i64 aj) := by rw [← haj]; exact k2
            have k4 := blk_cell HXj.out.hba 1
            simp only [List.getElem?_toArray, List.getElem?_cons_zero, List.getElem?_cons_succ] at k4
            have HBJ := Aside0.mk hbj
            have HAJ := Aside0.mk haj
            clear k0 k1 k2 hbj haj
            go_wp2_with fail
            refine region_tail 11 (by kernel_rfl) (by kernel_rfl) ?_
            simp only [List.take_succ_cons, List.take_zero, List.drop_succ_cons, List.drop_zero]
            repeat still_step
            refine wpStill_nil ?_
            go_wp2_with fail
            have hz := zipTo_step j acc1.2 b.2 (by omega)
            rw [HAJ.out, HBJ.out] at hz
            have hD := HXj.out.dep (j : Int) (mx aj bj) hcap
            simp only [Int.toNat_natCast] at hD
            rw [hz] at hD
            exact ⟨⟨j + 1, by omega, by go_num, ⟨hD.below (below_drew (Below.refl _ _))⟩, ⟨Kd.R_drew (R_up HRj.out (fun k hk _ => Below.heap_setCell _ ⟨gT, j, none⟩ _ k (by show k ≠ gT; omega)))⟩⟩, by simp [intOf]; omega⟩
          · have hjm : j = m := by omega
            subst hjm
            have HXn : Aside0 (OfIn w wr c self ga gT j capT (mx acc1.1 b.1, List.zipWith mx acc1.2 b.2)) := ⟨by
              have := HXj.out
              rw [show zipTo j acc1.2 b.2 = List.zipWith mx acc1.2 b.2 by rw [← hln]; exact zipTo_all _ _ (by omega)] at this
              exact this⟩
            have HEn : Aside0 ((mx acc1.1 b.1, List.zipWith mx acc1.2 b.2) = (l0.take (i + 1)).foldl (stepO (bnd a3) c self) acc) := ⟨by
              rw [foldl_take _ _ _ _ hlt y HY.out, ← HE.out]
              unfold stepO
              rw [HBQ.out]⟩
            clear HXj HRj
            go_wp2_with fail
            go_roundw
            case rel => exact ⟨i + 1, _, by omega, by go_num, HXn, HEn⟩
            case measure => simp [intOf]; omega
      · have hil : i = l0.length := by omega
        subst hil
        have HF : Aside0 (ofP (bnd a3) l0 c self = acc1) := ⟨by
          unfold ofP
          rw [HAC.out, HE.out, List.take_length]⟩
        have a0 := blk_cell HX.out.hba 0
        have a1 := blk_cell HX.out.hba 1
        have g0 := blk_frozen HX.out.hbr 0
        have g1 := blk_frozen HX.out.hbr 1
        have r0 := blk_cell HX.out.hbr 0
        have r1 := blk_cell HX.out.hbr 1
        simp only [List.getElem?_toArray, List.getElem?_cons_zero, List.getElem?_cons_succ] at a0 a1 r0 r1
        have hbl := HX.out.hbl
        have n1 : ga ≠ w.heap.size + 1 + 1 := by omega
        have n2 : w.heap.size + 1 + 1 ≠ ga := by omega
        go_wp2_with fail
        clear r0 r1 g0 g1 a0 a1
        have hbr2 := blk_set (blk_set HX.out.hbr 0 (.int .i64 acc1.1)) 1 (.slice (some ⟨gT, 0, none⟩) m capT)
        have t0 := blk_cell hbr2 0
        have t1 := blk_cell hbr2 1
        have hR : Kd.R (Kd.int .i64) 3 ((wr.setCell ⟨w.heap.size + 1 + 1, 0, none⟩ (.int .i64 acc1.1)).setCell ⟨w.heap.size + 1 + 1, 1, none⟩ (.slice (some ⟨gT, 0, none⟩) m capT)) w.heap.size (fun _ => True) (.slice (some ⟨gT, 0, none⟩) m capT) acc1.2 := R_kinds HX.out.hde (fun k cs q hq hk => by
          have hne : k ≠ w.heap.size + 1 + 1 := fun e => by
            rw [e, HX.out.hbr] at hk
            cases hk
            revert hq
            decide
          rw [Below.heap_setCell _ ⟨w.heap.size + 1 + 1, 1, none⟩ _ k hne, Below.heap_setCell _ ⟨w.heap.size + 1 + 1, 0, none⟩ _ k hne])
        have hB : Below w.heap.size w ((wr.setCell ⟨w.heap.size + 1 + 1, 0, none⟩ (.int .i64 acc1.1)).setCell ⟨w.heap.size + 1 + 1, 1, none⟩ (.slice (some ⟨gT, 0, none⟩) m capT)) := (HX.out.hbe.setCell (by show w.heap.size ≤ w.heap.size + 1 + 1; omega) _).setCell (by show w.heap.size ≤ w.heap.size + 1 + 1; omega) _
        have HR := Aside0.mk hR
        have HB := Aside0.mk hB
        clear hR hB
        exact bodyPost_ret (v := .agg #[.int .i64 acc1.1, .slice (some ⟨gT, 0, none⟩) m capT]) (by simp [results, Try.results10, go_sem, t0, t1]) rfl ⟨_, by rw [HF.out], by rw [HF.out]; exact HR.out, HB.out⟩
  · rename_i hHeld_
    clear hHeld_ hS
    have hX := OfIn.startB (c := c) (sf := self) (a := attrP (bnd a3) (fun _ => []) c self) M1.out M2.out M3.out HSZ.out HB.out hT0 hRT (by have h1_ := HSZ.out; have h2_ := hN0.size; first | omega | (simp; omega)) (attr_len _ _ _ _) HZ2 (Nat.le_refl _)
    generalize (wT.setCell ⟨W0.heap.size, 0, none⟩ (.int .i64 (attrP (bnd a3) (fun _ => []) c self).1)).setCell ⟨W0.heap.size, 1, none⟩ (.slice (some ⟨gT, 0, none⟩) (bnd a3).toNat capT) = X at hX ⊢
    clear hRT hT0 hbT hbN hN0 hown hIX HSZ HB M1 M2 M3 HZ HZ2 zc0 zc1 zf0 zf1
    generalize W0.heap.size = ga at hX ⊢
    obtain ⟨acc, hacc⟩ : ∃ acc, attrP (bnd a3) (fun _ => []) c self = acc := ⟨_, rfl⟩
    rw [hacc] at hX ⊢
    have HAC := Aside0.mk hacc
    have HX := Aside0.mk hX
    obtain ⟨m, hm⟩ : ∃ m, (bnd a3).toNat = m := ⟨_, rfl⟩
    rw [hm] at HX hcap ⊢
    have HM := Aside0.mk hm
    clear hacc hX hm
    go_wp2_with fail
    go_loopw [23] (fun v23 wr => ∃ (i : Nat) (acc1 : Int × List Int), i ≤ l0.length ∧ v23 = .int .i64 i ∧ Aside0 (OfIn w wr c self ga gT m capT acc1) ∧ Aside0 (acc1 = (l0.take i).foldl (stepO (bnd a3) c self) acc)) (fun v23 _ => l0.length - (intOf v23).toNat)
    case atStart => exact ⟨0, acc, by omega, rfl, HX, ⟨rfl⟩⟩
    case round =>
      clear HX
      obtain ⟨i, acc1, hi, rfl, HX, HE⟩ := hrel
      by_cases hlt : i < l0.length
      · obtain ⟨ad', e0, hx0, hx1, hx2, hx3, hx4, hx5, hx6, hx7, hx8⟩ := at_T29 (Kd.C_below HR0.out HX.out.hbe) (i : Int) (by omega) (by omega)
        cases e0
        obtain ⟨y, hy⟩ : ∃ y, rd_T29 l0 (i : Int) = y := ⟨_, rfl⟩
        simp only [hy, Int.toNat_natCast] at hx0 hx1 hx2 hx3 hx4 hx5 hx6 hx7 hx8
        have HY : Aside0 (l0[i]'hlt = y) := ⟨by rw [← hy]; unfold rd_T29; simp [List.getD_eq_getElem?_getD, List.getElem?_eq_getElem hlt]⟩
        clear hy
        go_wp2_with fail
        clear hx0 hx1 hx2 hx3 hx4 hx5 hx6 hx7 hx8
        have hnewY := heap_alloc_new wr (.cells #[.int .i64 y.f0.f0, .int .i64 y.f0.f1, .int .i64 y.f1.f0, .int .i64 y.f1.f1, .int .i64 y.f1.f2, .int .i64 y.f1.f3, .int .i64 y.f1.f4, .string y.f1.f5, .int .i64 y.f2] 29)
        have hbY := below_alloc (Below.refl wr.heap.size wr) (.cells #[.int .i64 y.f0.f0, .int .i64 y.f0.f1, .int .i64 y.f1.f0, .int .i64 y.f1.f1, .int .i64 y.f1.f2, .int .i64 y.f1.f3, .int .i64 y.f1.f4, .string y.f1.f5, .int .i64 y.f2] 29)
        have hszY : (wr.alloc (.cells #[.int .i64 y.f0.f0, .int .i64 y.f0.f1, .int .i64 y.f1.f0, .int .i64 y.f1.f1, .int .i64 y.f1.f2, .int .i64 y.f1.f3, .int .i64 y.f1.f4, .string y.f1.f5, .int .i64 y.f2] 29)).heap.size = wr.heap.size + 1 := by simp
        generalize wr.alloc (.cells #[.int .i64 y.f0.f0, .int .i64 y.f0.f1, .int .i64 y.f1.f0, .int .i64 y.f1.f1, .int .i64 y.f1.f2, .int .i64 y.f1.f3, .int .i64 y.f1.f4, .string y.f1.f5, .int .i64 y.f2] 29) = Y at hnewY hbY hszY ⊢
        refine (index_New.calls a3 Y).mono ?_
        rintro e wN ⟨gy, own, rfl, hIX, hown, hbN⟩
        have hNY := (hbN.block _ (blk_lt hnewY)).trans hnewY
        have hbYN : Below wr.heap.size wr wN := below_step hbY hbN
        have y0 := blk_cell hNY 0
        have y1 := blk_cell hNY 1
        have y2 := blk_cell hNY 2
        have y3 := blk_cell hNY 3
        have y4 := blk_cell hNY 4
        have y5 := blk_cell hNY 5
        have y6 := blk_cell hNY 6
        have y7 := blk_cell hNY 7
        have y8 := blk_cell hNY 8
        simp only [List.getElem?_toArray, List.getElem?_cons_zero, List.getElem?_cons_succ] at y0 y1 y2 y3 y4 y5 y6 y7 y8
        have HIX := Aside0.mk hIX
        have HOW : Aside0 (∀ i, own i → wr.heap.size ≤ i) := ⟨fun i hi => by have := hown i hi; omega⟩
        have HBN := Aside0.mk hbYN
        clear hIX hown hbN hbYN hNY hnewY hbY hszY
        go_wp2_with fail
        clear y0 y1 y2 y3 y4 y5 y6 y7 y8
        refine (index_Put.calls gy own (bnd a3) [] (fun _ => []) y wN HIX.out).mono ?_
        rintro e wP ⟨rfl, own', hIP, ho1, ho2, hKP⟩
        have hbP : Below wr.heap.size wr wP := HBN.out.trans (hKP.below HBN.out.size HOW.out)
        have HXP := Aside0.mk (HX.out.below hbP)
        have HIP := Aside0.mk hIP
        have hgl : gT < wr.heap.size := by
          obtain ⟨g', cap', he', hgb', hgl', cs', hcs'⟩ := Kd.R_form HX.out.hde (by rw [HX.out.hln]; exact hcap)
          injection he' with e1 e2 e3
          injection e1 with e1
          injection e1 with e1
          omega
        have hPs : wr.heap.size ≤ wP.heap.size := hbP.size
        have q0 := blk_cell HXP.out.hbc 0
        have q1 := blk_cell HXP.out.hbc 1
        have q2 := blk_cell HXP.out.hbc 2
        have q3 := blk_cell HXP.out.hbc 3
        have q4 := blk_cell HXP.out.hbc 4
        have q5 := blk_cell HXP.out.hbc 5
        have q6 := blk_cell HXP.out.hbs 0
        have q7 := blk_cell HXP.out.hbs 1
        simp only [List.getElem?_toArray, List.getElem?_cons_zero, List.getElem?_cons_succ] at q0 q1 q2 q3 q4 q5 q6 q7
        clear hIP ho1 ho2 hKP hbP HBN HOW HIX HX
        go_wp2_with fail
        clear q0 q1 q2 q3 q4 q5 q6 q7
        refine (index_Attr.calls gy own' (bnd a3) _ _ c self wP HIP.out (bnd_in a3) (GB.putP (GB.nil _) y)).mono ?_
        rintro e wT ⟨vB, rfl, hRB, hbT⟩
        obtain ⟨b, hb⟩ : ∃ b, attrP (bnd a3) (putP (bnd a3) [] (fun _ => []) y).2 c self = b := ⟨_, rfl⟩
        have hbl : b.2.length = m := by rw [← hb, attr_len]; exact HM.out
        have HBQ : Aside0 (oneP (bnd a3) y c self = b) := ⟨hb⟩
        rw [hb] at hRB ⊢
        clear hb
        obtain ⟨gB, capB, rfl, hgb, hgl_, cs_, hcs_⟩ := Kd.R_form hRB (by rw [hbl]; exact hcap)
        rw [hbl] at hRB ⊢
        clear hgl_ hcs_ cs_
        have hbZ := below_alloc (Below.refl wT.heap.size wT) (.cells #[.int .i64 b.1, .slice (some ⟨gB, 0, none⟩) m capB] 32)
        have hnZ := heap_alloc_new wT (.cells #[.int .i64 b.1, .slice (some ⟨gB, 0, none⟩) m capB] 32)
        have hXZ := HXP.out.below (below_step hbT hbZ)
        have hRZ := Kd.R_below hRB hbZ
        have hnz : ga ≠ wT.heap.size := by
          have h1 := blk_lt HXP.out.hba
          have h2 := hbT.size
          omega
        have z0 := blk_cell hXZ.hba 0
        have z1 := blk_frozen hXZ.hba 0
        simp only [List.getElem?_toArray, List.getElem?_cons_zero, List.getElem?_cons_succ] at z0
        have HXZ := Aside0.mk hXZ
        have HRZ := Aside0.mk hRZ
        have HNZ := Aside0.mk hnZ
        clear hXZ hRZ hnZ hbZ hbT hRB HXP HIP
        go_wp2_with fail
        have hX9 := HXZ.out.seq (mx acc1.1 b.1)
        have hf : ∀ i, i ≠ ga → ((wT.alloc (.cells #[.int .i64 b.1, .slice (some ⟨gB, 0, none⟩) m capB] 32)).setCell ⟨ga, 0, none⟩ (.int .i64 (mx acc1.1 b.1))).heap[i]? = (wT.alloc (.cells #[.int .i64 b.1, .slice (some ⟨gB, 0, none⟩) m capB] 32)).heap[i]? := fun i hi => Below.heap_setCell _ ⟨ga, 0, none⟩ _ i hi
        have hR9 : Kd.R (Kd.int .i64) 3 ((wT.alloc (.cells #[.int .i64 b.1, .slice (some ⟨gB, 0, none⟩) m capB] 32)).setCell ⟨ga, 0, none⟩ (.int .i64 (mx acc1.1 b.1))) wP.heap.size (fun _ => True) (.slice (some ⟨gB, 0, none⟩) m capB) b.2 := R_kinds HRZ.out (fun k cs q hq hk => hf k (fun e => by
          rw [e, HXZ.out.hba] at hk
          cases hk
          revert hq
          decide))
        clear hf z0 z1
        generalize (wT.alloc (.cells #[.int .i64 b.1, .slice (some ⟨gB, 0, none⟩) m capB] 32)).setCell ⟨ga, 0, none⟩ (.int .i64 (mx acc1.1 b.1)) = X9 at hX9 hR9 ⊢
        have hln : acc1.2.length = m := hX9.hln
        have HX9 := Aside0.mk hX9
        have HR9 := Aside0.mk hR9
        clear hX9 hR9 HXZ HRZ HNZ hnz
        have hm7 : m ≤ 7 := by have := HM.out; have := bnd_in a3; omega
        go_loopw [45] (fun v45 wr2 => ∃ j : Nat, j ≤ m ∧ v45 = .int .i64 j ∧ Aside0 (OfIn w wr2 c self ga gT m capT (mx acc1.1 b.1, zipTo j acc1.2 b.2)) ∧ Aside0 (Kd.R (Kd.int .i64) 3 wr2 wP.heap.size (fun _ => True) (.slice (some ⟨gB, 0, none⟩) m capB) b.2)) (fun v45 _ => m - (intOf v45).toNat)
        case atStart => exact ⟨0, by omega, rfl, ⟨by rw [zipTo_zero]; exact HX9.out⟩, HR9⟩
        case round =>
          clear HX9 HR9
          obtain ⟨j, hj, rfl, HXj, HRj⟩ := hrel
          by_cases hlj : j < m
          · obtain ⟨k0, k1⟩ := Kd.R_celln 0 HRj.out (j : Int) (by omega) (by omega)
            obtain ⟨k2, k3⟩ := Kd.R_celln 0 HXj.out.hde (j : Int) (by omega) (by omega)
            simp only [Int.toNat_natCast] at k0 k1 k2 k3
            obtain ⟨bj, hbj⟩ : ∃ bj, rd b.2 (j : Int) = bj := ⟨_, rfl⟩
            obtain ⟨aj, haj⟩ : ∃ aj, rd (zipTo j acc1.2 b.2) (j : Int) = aj := ⟨_, rfl⟩
            have k0' : wr.cell? ⟨gB, j, none⟩ = some (.int .i64 bj) := by rw [← hbj]; exact k0
            have k2' : wr.cell? ⟨gT, j, none⟩ = some (.int .i64 aj) := by rw [← haj]; exact k2
            have k4 := blk_cell HXj.out.hba 1
            simp only [List.getElem?_toArray, List.getElem?_cons_zero, List.getElem?_cons_succ] at k4
            have HBJ := Aside0.mk hbj
            have HAJ := Aside0.mk haj
            clear k0 k1 k2 hbj haj
            go_wp2_with fail
            refine region_tail 11 (by kernel_rfl) (by kernel_rfl) ?_
            simp only [List.take_succ_cons, List.take_zero, List.drop_succ_cons, List.drop_zero]
            repeat still_step
            refine wpStill_nil ?_
            go_wp2_with fail
            have hz := zipTo_step j acc1.2 b.2 (by omega)
            rw [HAJ.out, HBJ.out] at hz
            have hD := HXj.out.dep (j : Int) (mx aj bj) hcap
            simp only [Int.toNat_natCast] at hD
            rw [hz] at hD
            exact ⟨⟨j + 1, by omega, by go_num, ⟨hD.below (below_drew (Below.refl _ _))⟩, ⟨Kd.R_drew (R_up HRj.out (fun k hk _ => Below.heap_setCell _ ⟨gT, j, none⟩ _ k (by show k ≠ gT; omega)))⟩⟩, by simp [intOf]; omega⟩
          · have hjm : j = m := by omega
            subst hjm
            have HXn : Aside0 (OfIn w wr c self ga gT j capT (mx acc1.1 b.1, List.zipWith mx acc1.2 b.2)) := ⟨by
              have := HXj.out
              rw [show zipTo j acc1.2 b.2 = List.zipWith mx acc1.2 b.2 by rw [← hln]; exact zipTo_all _ _ (by omega)] at this
              exact this⟩
            have HEn : Aside0 ((mx acc1.1 b.1, List.zipWith mx acc1.2 b.2) = (l0.take (i + 1)).foldl (stepO (bnd a3) c self) acc) := ⟨by
              rw [foldl_take _ _ _ _ hlt y HY.out, ← HE.out]
              unfold stepO
              rw [HBQ.out]⟩
            clear HXj HRj
            go_wp2_with fail
            go_roundw
            case rel => exact ⟨i + 1, _, by omega, by go_num, HXn, HEn⟩
            case measure => simp [intOf]; omega
      · have hil : i = l0.length := by omega
        subst hil
        have HF : Aside0 (ofP (bnd a3) l0 c self = acc1) := ⟨by
          unfold ofP
          rw [HAC.out, HE.out, List.take_length]⟩
        have a0 := blk_cell HX.out.hba 0
        have a1 := blk_cell HX.out.hba 1
        have g0 := blk_frozen HX.out.hbr 0
        have g1 := blk_frozen HX.out.hbr 1
        have r0 := blk_cell HX.out.hbr 0
        have r1 := blk_cell HX.out.hbr 1
        simp only [List.getElem?_toArray, List.getElem?_cons_zero, List.getElem?_cons_succ] at a0 a1 r0 r1
        have hbl := HX.out.hbl
        have n1 : ga ≠ w.heap.size + 1 + 1 := by omega
        have n2 : w.heap.size + 1 + 1 ≠ ga := by omega
        go_wp2_with fail
        clear r0 r1 g0 g1 a0 a1
        have hbr2 := blk_set (blk_set HX.out.hbr 0 (.int .i64 acc1.1)) 1 (.slice (some ⟨gT, 0, none⟩) m capT)
        have t0 := blk_cell hbr2 0
        have t1 := blk_cell hbr2 1
        have hR : Kd.R (Kd.int .i64) 3 ((wr.setCell ⟨w.heap.size + 1 + 1, 0, none⟩ (.int .i64 acc1.1)).setCell ⟨w.heap.size + 1 + 1, 1, none⟩ (.slice (some ⟨gT, 0, none⟩) m capT)) w.heap.size (fun _ => True) (.slice (some ⟨gT, 0, none⟩) m capT) acc1.2 := R_kinds HX.out.hde (fun k cs q hq hk => by
          have hne : k ≠ w.heap.size + 1 + 1 := fun e => by
            rw [e, HX.out.hbr] at hk
            cases hk
            revert hq
            decide
          rw [Below.heap_setCell _ ⟨w.heap.size + 1 + 1, 1, none⟩ _ k hne, Below.heap_setCell _ ⟨w.heap.size + 1 + 1, 0, none⟩ _ k hne])
        have hB : Below w.heap.size w ((wr.setCell ⟨w.heap.size + 1 + 1, 0, none⟩ (.int .i64 acc1.1)).setCell ⟨w.heap.size + 1 + 1, 1, none⟩ (.slice (some ⟨gT, 0, none⟩) m capT)) := (HX.out.hbe.setCell (by show w.heap.size ≤ w.heap.size + 1 + 1; omega) _).setCell (by show w.heap.size ≤ w.heap.size + 1 + 1; omega) _
        have HR := Aside0.mk hR
        have HB := Aside0.mk hB
        clear hR hB
        exact bodyPost_ret (v := .agg #[.int .i64 acc1.1, .slice (some ⟨gT, 0, none⟩) m capT]) (by simp [results, Try.results10, go_sem, t0, t1]) rfl ⟨_, by rw [HF.out], by rw [HF.out]; exact HR.out, HB.out⟩
end
def index_Of.f (l : List S29) (c0 c1 c2 c3 c4 : Int) (c5 : ByteArray) (s0 s1 n : Int) : Option (Int × List Int) := some (ofP (bnd n) l ⟨c0, c1, c2, c3, c4, c5⟩ ⟨s0, s1⟩)
theorem index_Of.calls (A0 : Option Addr) (c0 : Nat) (l0 : List (S29)) (a1_0 : Int) (a1_1 : Int) (a1_2 : Int) (a1_3 : Int) (a1_4 : Int) (a1_5 : ByteArray) (a2_0 : Int) (a2_1 : Int) (a3 : Int) (r1 : Int) (r2 : List Int) (w : World) (hr0 : Kd.C k29 w A0 l0.length l0) (hc0 : l0.length ≤ c0) (h : index_Of.f l0 a1_0 a1_1 a1_2 a1_3 a1_4 a1_5 a2_0 a2_1 a3 = some (r1, r2)) :
    Calls Try.prog 10 #[.slice A0 l0.length c0, .agg #[.int .i64 a1_0, .int .i64 a1_1, .int .i64 a1_2, .int .i64 a1_3, .int .i64 a1_4, .string a1_5], .agg #[.int .i64 a2_0, .int .i64 a2_1], .int .i64 a3] w fun e w' => ∃ v1_ : Value, e = .returned (.agg #[.int .i64 r1, v1_]) ∧ Kd.R (Kd.int .i64) 3 w' w.heap.size (fun _ => True) v1_ r2 ∧ Below w.heap.size w w' := by
  have e := Option.some.inj h
  have := index_Of_calls A0 c0 l0 ⟨a1_0, a1_1, a1_2, a1_3, a1_4, a1_5⟩ ⟨a2_0, a2_1⟩ a3 w hr0 hc0
  rw [e] at this
  exact this

end Go.Proofs.Ytgenfbpaooeofaa.P
