/- Plain Lean functions and their contracts over the translation, written by a program of this session (myprint.py, over the kit's print); no condition but each contract's own. -/
import Derived.Test.YtgenfbpaooeofaaPx0
import Derived.Test.YtgenfbpaooeofaaPx3
namespace Go.Proofs.Ytgenfbpaooeofaa.P
open Go.RowKit Go.Proofs.YtgenfbpaooeofaaW.PrintWords Go.Proofs.YtgenfbpaooeofaaW.PrintLast Go.Proofs.YtgenfbpaooeofaaW.PrintMore
attribute [local go_sem] max2_int min2_int max_two min_two max_three min_three max_four min_four   -- for this text's walks alone
set_option linter.unusedVariables false
set_option linter.unusedSimpArgs false

/-! ### keys_Interfere: function 19, by hand -/
-- making: yes
def meetB (x y : S57) : Bool := (x.f0 == y.f0) && (decide (x.f1 = y.f1)) && (x.f2 || y.f2)
theorem meet_eq (x y : S57) : keys_Meet.f x.f0 x.f1 x.f2 y.f0 y.f1 y.f2 = some (meetB x y) := by
  unfold keys_Meet.f meetB
  by_cases h0 : (x.f0 == y.f0) = true
  · rw [if_pos h0, h0]
    by_cases h1 : x.f1 = y.f1
    · rw [if_pos h1, decide_eq_true h1]; cases x.f2 <;> simp
    · rw [if_neg h1, decide_eq_false h1]; simp
  · rw [if_neg h0, Bool.eq_false_iff.2 h0]; simp
/-- is a number from 1 to another one, if it is needed, or else 0? -/
def fitB (n most : Int) (needed : Bool) : Bool := if needed then decide (1 ≤ n) && decide (n ≤ most) else (n == 0)
theorem fits_eq (n most : Int) (needed : Bool) : command_fits.f n most needed = some (fitB n most needed) := by
  unfold command_fits.f fitB
  cases needed
  · simp
  · by_cases h : 1 ≤ n <;> simp [h]
def mayC (u s k c n : Int) (t : ByteArray) : Bool := (kindOf k).2.2.2.2 && (fitB u 1048576 (kindOf k).1 && (fitB s 1073741824 (kindOf k).1 && (fitB c 1048576 (kindOf k).1 && (fitB n 1073741824 (kindOf k).2.1 && fitB (t.size : Int) 64 (kindOf k).2.2.1))))
theorem may_eq (u s k c n : Int) (t : ByteArray) : command_May.f u s k c n t = some (mayC u s k c n t) := by
  unfold command_May.f command_of.f mayC
  simp only [fits_eq, Option.bind_some]
  cases (kindOf k).2.2.2.2 <;> cases fitB u 1048576 (kindOf k).1 <;> cases fitB s 1073741824 (kindOf k).1 <;> cases fitB c 1048576 (kindOf k).1 <;> cases fitB n 1073741824 (kindOf k).2.1 <;> rfl
def readsC (k : Int) : Bool := (kindOf k).2.2.2.1
theorem reads_eq (u s k c n : Int) (t : ByteArray) : command_Reads.f u s k c n t = some (readsC k) := rfl
def keysOf (u s k c n : Int) (t : ByteArray) : List S57 := if mayC u s k c n t = true ∧ k ≠ 0 then [⟨true, u, true⟩, ⟨false, c, !readsC k⟩] else []
theorem of_eq (u s k c n : Int) (t : ByteArray) : keys_Of.f u s k c n t = some (keysOf u s k c n t) := by
  unfold keys_Of.f keysOf
  rw [may_eq]
  simp only [Option.bind_some, reads_eq]
  cases mayC u s k c n t
  · simp
  · by_cases h : k = 0 <;> simp [h]
def keys_Interfere.f (a0 a1 a2 a3 a4 : Int) (a5 : ByteArray) (b0 b1 b2 b3 b4 : Int) (b5 : ByteArray) : Option Bool := some ((keysOf a0 a1 a2 a3 a4 a5).any fun x => (keysOf b0 b1 b2 b3 b4 b5).any fun y => meetB x y)
/-- where the first one is of which p holds; -1: there is none -/
def idxOfK2 (p : S57 → Bool) (l : List S57) : Int := match l.findIdx? p with | some i => (i : Int) | none => -1
theorem idxOfK2_at (p : S57 → Bool) (l : List S57) (i : Nat) (hi : i < l.length) (h : ∀ x, x ∈ l.take i → p x = false) (hp : p l[i] = true) : idxOfK2 p l = i := by
  unfold idxOfK2
  have : l.findIdx? p = some i := by
    rw [List.findIdx?_eq_some_iff_getElem]
    refine ⟨hi, hp, fun j hj => ?_⟩
    rw [h _ (List.mem_take_iff_getElem.2 ⟨j, by omega, rfl⟩)]; simp
  rw [this]
theorem idxOfK2_none (p : S57 → Bool) (l : List S57) (h : ∀ x, x ∈ l → p x = false) : idxOfK2 p l = -1 := by
  unfold idxOfK2
  rw [List.findIdx?_eq_none_iff.2 h]
theorem idxOfK2_any (p : S57 → Bool) (l : List S57) : decide (0 ≤ idxOfK2 p l) = l.any p := by
  unfold idxOfK2
  cases h : l.findIdx? p with
  | none =>
    rw [List.findIdx?_eq_none_iff] at h
    rw [List.any_eq_false.2 (fun x hx => by rw [h x hx]; simp)]; rfl
  | some i =>
    rw [List.findIdx?_eq_some_iff_getElem] at h
    obtain ⟨hi, hp, _⟩ := h
    rw [List.any_eq_true.2 ⟨l[i], List.getElem_mem hi, hp⟩]; simp
theorem rdTK2_at (l : List S57) (j : Nat) (h : j < l.length) : rd_T57 l (j : Int) = l[j] := by
  unfold rd_T57; simp [List.getD_eq_getElem?_getD, List.getElem?_eq_getElem h]
set_option maxHeartbeats 8000000 in
set_option maxRecDepth 100000 in
theorem indexK2_calls (b : Nat) (p : S57 → Bool) (A0 : Option Addr) (c0 : Nat) (l0 : List S57) (w : World) (hr0 : Kd.C k57 w A0 l0.length l0) (hc0 : l0.length ≤ c0) (hf : ∀ (W : World) (x : S57), Below w.heap.size w W → Calls Try.prog 31 #[.agg #[.bool x.f0, .int .i64 x.f1, .bool x.f2], .pointer (some ⟨b, 0, none⟩)] W fun e W' => e = .returned (.bool (p x)) ∧ Below W.heap.size W W') :
    Calls Try.prog 38 #[.slice A0 l0.length c0, .func (.func 31) #[] #[.pointer (some ⟨b, 0, none⟩)]] w fun e w' => e = .returned (.int .i64 (idxOfK2 p l0)) ∧ Below w.heap.size w w' := by
  have hu := Try.underlying57
  have huS := Try.underlying54
  have HR := Aside0.mk hr0
  have HF := Aside0.mk hf
  have hlen : l0.length ≤ 9223372036854775807 := hr0.2.1
  clear hr0 hf
  go_enter Try.func38, Try.ntmps38
  go_wp2_with fail
  go_loopw [5, 8] (fun v5 v8 w' => ∃ i : Nat, i ≤ l0.length ∧ v8 = .int .i64 i ∧ Aside0 (∀ x, x ∈ l0.take i → p x = false) ∧ Aside0 (Below w.heap.size w w')) (fun _ v8 _ => l0.length - (intOf v8).toNat)
  case atStart => exact ⟨0, by omega, rfl, ⟨by simp⟩, ⟨Below.refl _ _⟩⟩
  case round =>
    obtain ⟨i, hi, rfl, HP, HB⟩ := hrel
    by_cases hlt : i < l0.length
    · obtain ⟨ad', e0, hx0, hx1, hx2⟩ := at_T57 (Kd.C_below HR.out HB.out) (i : Int) (by omega) (by omega)
      cases e0
      obtain ⟨y, hy⟩ : ∃ y, rd_T57 l0 (i : Int) = y := ⟨_, rfl⟩
      simp only [hy, Int.toNat_natCast] at hx0 hx1 hx2
      have HY : Aside0 (l0[i]'hlt = y) := ⟨by rw [← hy, rdTK2_at l0 i hlt]⟩
      clear hy
      cases hp : p y with
      | true =>
        have hf' := HF.out wr y HB.out
        rw [hp] at hf'
        have HF' := Aside0.mk hf'
        have HP' : Aside0 (idxOfK2 p l0 = i) := ⟨idxOfK2_at p l0 i hlt HP.out (by rw [HY.out]; exact hp)⟩
        clear hf' hp
        go_wp2_with fail
        refine HF'.out.mono ?_
        rintro e w1 ⟨rfl, hb1⟩
        have HB1 := Aside0.mk (below_step HB.out hb1)
        clear hb1
        go_wp2_with fail
        go_ret
        exact ⟨by rw [HP'.out]; rfl, HB1.out⟩
      | false =>
        have hf' := HF.out wr y HB.out
        rw [hp] at hf'
        have HF' := Aside0.mk hf'
        have HP' : Aside0 (∀ x, x ∈ l0.take (i + 1) → p x = false) := ⟨fun x hx => by
          rw [List.take_succ_eq_append_getElem hlt, List.mem_append, List.mem_singleton] at hx
          rcases hx with hx | rfl
          · exact HP.out x hx
          · rw [HY.out]; exact hp⟩
        clear hf' hp
        go_wp2_with fail
        refine HF'.out.mono ?_
        rintro e w1 ⟨rfl, hb1⟩
        have HB1 := Aside0.mk (below_step HB.out hb1)
        clear hb1
        go_wp2_with fail
        go_roundw
        case rel => exact ⟨i + 1, by omega, by go_num, HP', HB1⟩
        case measure => simp [intOf]; omega
    · go_wp2_with fail
      go_ret
      exact ⟨by rw [idxOfK2_none p l0 (fun x hx => HP.out x (by rw [List.take_of_length_le (by omega)]; exact hx))]; rfl, HB.out⟩
set_option maxHeartbeats 8000000 in
set_option maxRecDepth 100000 in
theorem containsK2_calls (b : Nat) (p : S57 → Bool) (A0 : Option Addr) (c0 : Nat) (l0 : List S57) (w : World) (hr0 : Kd.C k57 w A0 l0.length l0) (hc0 : l0.length ≤ c0) (hf : ∀ (W : World) (x : S57), Below w.heap.size w W → Calls Try.prog 31 #[.agg #[.bool x.f0, .int .i64 x.f1, .bool x.f2], .pointer (some ⟨b, 0, none⟩)] W fun e W' => e = .returned (.bool (p x)) ∧ Below W.heap.size W W') :
    Calls Try.prog 29 #[.slice A0 l0.length c0, .func (.func 31) #[] #[.pointer (some ⟨b, 0, none⟩)]] w fun e w' => e = .returned (.bool (l0.any p)) ∧ Below w.heap.size w w' := by
  have HR := Aside0.mk hr0
  have HF := Aside0.mk hf
  have HA := Aside0.mk (idxOfK2_any p l0)
  clear hr0 hf
  go_enter Try.func29, Try.ntmps29
  go_wp2_with fail
  refine (indexK2_calls b p A0 c0 l0 _ HR.out hc0 HF.out).mono ?_
  rintro e w1 ⟨rfl, hb1⟩
  have HB1 := Aside0.mk hb1
  clear hb1
  go_wp2_with fail
  go_ret
  exact ⟨by rw [← HA.out]; rfl, HB1.out⟩
set_option maxHeartbeats 8000000 in
set_option maxRecDepth 100000 in
/-- the inner closure: whether the key that it holds meets one more -/
theorem inter2_calls (b : Nat) (x y : S57) (w : World) (h0 : w.cell? ⟨b, 0, none⟩ = some (.bool x.f0)) (h1 : w.cell? ⟨b, 1, none⟩ = some (.int .i64 x.f1)) (h2 : w.cell? ⟨b, 2, none⟩ = some (.bool x.f2)) :
    Calls Try.prog 31 #[.agg #[.bool y.f0, .int .i64 y.f1, .bool y.f2], .pointer (some ⟨b, 0, none⟩)] w fun e w' => e = .returned (.bool (meetB x y)) ∧ Below w.heap.size w w' := by
  have hu := Try.underlying57
  have HM := Aside0.mk (meet_eq x y)
  have k0 := pw_cell_below (below_alloc (Below.refl w.heap.size w) (.cells #[.bool y.f0, .int .i64 y.f1, .bool y.f2] 57)) h0
  have k1 := pw_cell_below (below_alloc (Below.refl w.heap.size w) (.cells #[.bool y.f0, .int .i64 y.f1, .bool y.f2] 57)) h1
  have k2 := pw_cell_below (below_alloc (Below.refl w.heap.size w) (.cells #[.bool y.f0, .int .i64 y.f1, .bool y.f2] 57)) h2
  clear h0 h1 h2
  go_enter Try.func31, Try.ntmps31
  go_wp2_with fail
  refine (keys_Meet.calls _ _ _ _ _ _ _ _ HM.out).mono ?_
  rintro e w1 ⟨rfl, hb1⟩
  have HB := Aside0.mk (below_step (below_alloc (Below.refl w.heap.size w) _) hb1)
  clear hb1
  go_wp2_with fail
  go_ret
  exact ⟨rfl, HB.out⟩
set_option maxHeartbeats 8000000 in
set_option maxRecDepth 100000 in
/-- the outer closure: whether any of the other keys meets the one at hand -/
theorem inter1_calls (b : Nat) (A0 : Option Addr) (c0 : Nat) (l0 : List S57) (x : S57) (w : World) (h : w.cell? ⟨b, 0, none⟩ = some (.slice A0 l0.length c0)) (hr0 : Kd.C k57 w A0 l0.length l0) (hc0 : l0.length ≤ c0) :
    Calls Try.prog 30 #[.agg #[.bool x.f0, .int .i64 x.f1, .bool x.f2], .pointer (some ⟨b, 0, none⟩)] w fun e w' => e = .returned (.bool (l0.any fun y => meetB x y)) ∧ Below w.heap.size w w' := by
  have hu := Try.underlying57
  have huS := Try.underlying54
  have HA := below_alloc (Below.refl w.heap.size w) (.cells #[.bool x.f0, .int .i64 x.f1, .bool x.f2] 57)
  have k0 := pw_cell_below HA h
  have HR := Aside0.mk (Kd.C_below hr0 HA)
  have HF : Aside0 (∀ (W : World) (y : S57), Below (w.alloc (.cells #[.bool x.f0, .int .i64 x.f1, .bool x.f2] 57)).heap.size (w.alloc (.cells #[.bool x.f0, .int .i64 x.f1, .bool x.f2] 57)) W → Calls Try.prog 31 #[.agg #[.bool y.f0, .int .i64 y.f1, .bool y.f2], .pointer (some ⟨w.heap.size, 0, none⟩)] W fun e W' => e = .returned (.bool (meetB x y)) ∧ Below W.heap.size W W') := ⟨fun W y hb => by
    have hn : (w.alloc (.cells #[.bool x.f0, .int .i64 x.f1, .bool x.f2] 57)).heap[w.heap.size]? = some (.cells #[.bool x.f0, .int .i64 x.f1, .bool x.f2] 57 (0, 0)) := heap_alloc_new _ _
    refine inter2_calls w.heap.size x y W ?_ ?_ ?_
    · exact pw_cell_below hb (blk_cell hn 0)
    · exact pw_cell_below hb (blk_cell hn 1)
    · exact pw_cell_below hb (blk_cell hn 2)⟩
  have HB0 := Aside0.mk HA
  clear h hr0 HA
  go_enter Try.func30, Try.ntmps30
  go_wp2_with fail
  refine (containsK2_calls _ (fun y => meetB x y) A0 c0 l0 _ HR.out hc0 HF.out).mono ?_
  rintro e w1 ⟨rfl, hb1⟩
  have HB := Aside0.mk (below_step HB0.out hb1)
  clear hb1
  go_wp2_with fail
  go_ret
  exact ⟨rfl, HB.out⟩
/-- where the first one is of which p holds; -1: there is none -/
def idxOfK1 (p : S57 → Bool) (l : List S57) : Int := match l.findIdx? p with | some i => (i : Int) | none => -1
theorem idxOfK1_at (p : S57 → Bool) (l : List S57) (i : Nat) (hi : i < l.length) (h : ∀ x, x ∈ l.take i → p x = false) (hp : p l[i] = true) : idxOfK1 p l = i := by
  unfold idxOfK1
  have : l.findIdx? p = some i := by
    rw [List.findIdx?_eq_some_iff_getElem]
    refine ⟨hi, hp, fun j hj => ?_⟩
    rw [h _ (List.mem_take_iff_getElem.2 ⟨j, by omega, rfl⟩)]; simp
  rw [this]
theorem idxOfK1_none (p : S57 → Bool) (l : List S57) (h : ∀ x, x ∈ l → p x = false) : idxOfK1 p l = -1 := by
  unfold idxOfK1
  rw [List.findIdx?_eq_none_iff.2 h]
theorem idxOfK1_any (p : S57 → Bool) (l : List S57) : decide (0 ≤ idxOfK1 p l) = l.any p := by
  unfold idxOfK1
  cases h : l.findIdx? p with
  | none =>
    rw [List.findIdx?_eq_none_iff] at h
    rw [List.any_eq_false.2 (fun x hx => by rw [h x hx]; simp)]; rfl
  | some i =>
    rw [List.findIdx?_eq_some_iff_getElem] at h
    obtain ⟨hi, hp, _⟩ := h
    rw [List.any_eq_true.2 ⟨l[i], List.getElem_mem hi, hp⟩]; simp
theorem rdTK1_at (l : List S57) (j : Nat) (h : j < l.length) : rd_T57 l (j : Int) = l[j] := by
  unfold rd_T57; simp [List.getD_eq_getElem?_getD, List.getElem?_eq_getElem h]
set_option maxHeartbeats 8000000 in
set_option maxRecDepth 100000 in
theorem indexK1_calls (b : Nat) (p : S57 → Bool) (A0 : Option Addr) (c0 : Nat) (l0 : List S57) (w : World) (hr0 : Kd.C k57 w A0 l0.length l0) (hc0 : l0.length ≤ c0) (hf : ∀ (W : World) (x : S57), Below w.heap.size w W → Calls Try.prog 30 #[.agg #[.bool x.f0, .int .i64 x.f1, .bool x.f2], .pointer (some ⟨b, 0, none⟩)] W fun e W' => e = .returned (.bool (p x)) ∧ Below W.heap.size W W') :
    Calls Try.prog 38 #[.slice A0 l0.length c0, .func (.func 30) #[] #[.pointer (some ⟨b, 0, none⟩)]] w fun e w' => e = .returned (.int .i64 (idxOfK1 p l0)) ∧ Below w.heap.size w w' := by
  have hu := Try.underlying57
  have huS := Try.underlying54
  have HR := Aside0.mk hr0
  have HF := Aside0.mk hf
  have hlen : l0.length ≤ 9223372036854775807 := hr0.2.1
  clear hr0 hf
  go_enter Try.func38, Try.ntmps38
  go_wp2_with fail
  go_loopw [5, 8] (fun v5 v8 w' => ∃ i : Nat, i ≤ l0.length ∧ v8 = .int .i64 i ∧ Aside0 (∀ x, x ∈ l0.take i → p x = false) ∧ Aside0 (Below w.heap.size w w')) (fun _ v8 _ => l0.length - (intOf v8).toNat)
  case atStart => exact ⟨0, by omega, rfl, ⟨by simp⟩, ⟨Below.refl _ _⟩⟩
  case round =>
    obtain ⟨i, hi, rfl, HP, HB⟩ := hrel
    by_cases hlt : i < l0.length
    · obtain ⟨ad', e0, hx0, hx1, hx2⟩ := at_T57 (Kd.C_below HR.out HB.out) (i : Int) (by omega) (by omega)
      cases e0
      obtain ⟨y, hy⟩ : ∃ y, rd_T57 l0 (i : Int) = y := ⟨_, rfl⟩
      simp only [hy, Int.toNat_natCast] at hx0 hx1 hx2
      have HY : Aside0 (l0[i]'hlt = y) := ⟨by rw [← hy, rdTK1_at l0 i hlt]⟩
      clear hy
      cases hp : p y with
      | true =>
        have hf' := HF.out wr y HB.out
        rw [hp] at hf'
        have HF' := Aside0.mk hf'
        have HP' : Aside0 (idxOfK1 p l0 = i) := ⟨idxOfK1_at p l0 i hlt HP.out (by rw [HY.out]; exact hp)⟩
        clear hf' hp
        go_wp2_with fail
        refine HF'.out.mono ?_
        rintro e w1 ⟨rfl, hb1⟩
        have HB1 := Aside0.mk (below_step HB.out hb1)
        clear hb1
        go_wp2_with fail
        go_ret
        exact ⟨by rw [HP'.out]; rfl, HB1.out⟩
      | false =>
        have hf' := HF.out wr y HB.out
        rw [hp] at hf'
        have HF' := Aside0.mk hf'
        have HP' : Aside0 (∀ x, x ∈ l0.take (i + 1) → p x = false) := ⟨fun x hx => by
          rw [List.take_succ_eq_append_getElem hlt, List.mem_append, List.mem_singleton] at hx
          rcases hx with hx | rfl
          · exact HP.out x hx
          · rw [HY.out]; exact hp⟩
        clear hf' hp
        go_wp2_with fail
        refine HF'.out.mono ?_
        rintro e w1 ⟨rfl, hb1⟩
        have HB1 := Aside0.mk (below_step HB.out hb1)
        clear hb1
        go_wp2_with fail
        go_roundw
        case rel => exact ⟨i + 1, by omega, by go_num, HP', HB1⟩
        case measure => simp [intOf]; omega
    · go_wp2_with fail
      go_ret
      exact ⟨by rw [idxOfK1_none p l0 (fun x hx => HP.out x (by rw [List.take_of_length_le (by omega)]; exact hx))]; rfl, HB.out⟩
set_option maxHeartbeats 8000000 in
set_option maxRecDepth 100000 in
theorem containsK1_calls (b : Nat) (p : S57 → Bool) (A0 : Option Addr) (c0 : Nat) (l0 : List S57) (w : World) (hr0 : Kd.C k57 w A0 l0.length l0) (hc0 : l0.length ≤ c0) (hf : ∀ (W : World) (x : S57), Below w.heap.size w W → Calls Try.prog 30 #[.agg #[.bool x.f0, .int .i64 x.f1, .bool x.f2], .pointer (some ⟨b, 0, none⟩)] W fun e W' => e = .returned (.bool (p x)) ∧ Below W.heap.size W W') :
    Calls Try.prog 29 #[.slice A0 l0.length c0, .func (.func 30) #[] #[.pointer (some ⟨b, 0, none⟩)]] w fun e w' => e = .returned (.bool (l0.any p)) ∧ Below w.heap.size w w' := by
  have HR := Aside0.mk hr0
  have HF := Aside0.mk hf
  have HA := Aside0.mk (idxOfK1_any p l0)
  clear hr0 hf
  go_enter Try.func29, Try.ntmps29
  go_wp2_with fail
  refine (indexK1_calls b p A0 c0 l0 _ HR.out hc0 HF.out).mono ?_
  rintro e w1 ⟨rfl, hb1⟩
  have HB1 := Aside0.mk hb1
  clear hb1
  go_wp2_with fail
  go_ret
  exact ⟨by rw [← HA.out]; rfl, HB1.out⟩
theorem keys_Interfere.calls (a0_0 : Int) (a0_1 : Int) (a0_2 : Int) (a0_3 : Int) (a0_4 : Int) (a0_5 : ByteArray) (a1_0 : Int) (a1_1 : Int) (a1_2 : Int) (a1_3 : Int) (a1_4 : Int) (a1_5 : ByteArray) (r : Bool) (w : World) (h : keys_Interfere.f a0_0 a0_1 a0_2 a0_3 a0_4 a0_5 a1_0 a1_1 a1_2 a1_3 a1_4 a1_5 = some r) :
    Calls Try.prog 19 #[.agg #[.int .i64 a0_0, .int .i64 a0_1, .int .i64 a0_2, .int .i64 a0_3, .int .i64 a0_4, .string a0_5], .agg #[.int .i64 a1_0, .int .i64 a1_1, .int .i64 a1_2, .int .i64 a1_3, .int .i64 a1_4, .string a1_5]] w fun e w' => e = .returned (.bool r) ∧ Below w.heap.size w w' := by
  have hu := Try.underlying24
  have huS := Try.underlying54
  obtain rfl := Option.some.inj h
  have H1 := Aside0.mk (of_eq a1_0 a1_1 a1_2 a1_3 a1_4 a1_5)
  have H2 := Aside0.mk (of_eq a0_0 a0_1 a0_2 a0_3 a0_4 a0_5)
  obtain ⟨l1, hl1⟩ : ∃ l, keysOf a1_0 a1_1 a1_2 a1_3 a1_4 a1_5 = l := ⟨_, rfl⟩
  obtain ⟨l2, hl2⟩ : ∃ l, keysOf a0_0 a0_1 a0_2 a0_3 a0_4 a0_5 = l := ⟨_, rfl⟩
  rw [hl1] at H1
  rw [hl2] at H2
  rw [hl1, hl2]
  clear h hl1 hl2
  have hblk : ((w.alloc (.cells #[.int .i64 a0_0, .int .i64 a0_1, .int .i64 a0_2, .int .i64 a0_3, .int .i64 a0_4, .string a0_5] 24)).alloc (.cells #[.int .i64 a1_0, .int .i64 a1_1, .int .i64 a1_2, .int .i64 a1_3, .int .i64 a1_4, .string a1_5] 24)).heap[w.heap.size]? = some (.cells #[.int .i64 a0_0, .int .i64 a0_1, .int .i64 a0_2, .int .i64 a0_3, .int .i64 a0_4, .string a0_5] 24 (0, 0)) := blk_alloc (heap_alloc_new _ _) _
  have HK := Aside0.mk hblk
  have HB0 := Aside0.mk (below_alloc (below_alloc (Below.refl w.heap.size w) (.cells #[.int .i64 a0_0, .int .i64 a0_1, .int .i64 a0_2, .int .i64 a0_3, .int .i64 a0_4, .string a0_5] 24)) (.cells #[.int .i64 a1_0, .int .i64 a1_1, .int .i64 a1_2, .int .i64 a1_3, .int .i64 a1_4, .string a1_5] 24))
  clear hblk
  go_enter Try.func19, Try.ntmps19
  go_wp2_with fail
  refine (keys_Of.calls _ _ _ _ _ _ _ _ H1.out).mono ?_
  rintro e w1 ⟨v1, rfl, hr1, hb1⟩
  obtain ⟨A1, c1, rfl, hc1, hC1⟩ := Kd.R_reads hr1
  have hk3 : (w1.alloc (.cells #[.slice A1 l1.length c1] 54)).heap[w.heap.size]? = some (.cells #[.int .i64 a0_0, .int .i64 a0_1, .int .i64 a0_2, .int .i64 a0_3, .int .i64 a0_4, .string a0_5] 24 (0, 0)) := blk_alloc (blk_below HK.out hb1) _
  have q0 := blk_cell hk3 0
  have q1 := blk_cell hk3 1
  have q2 := blk_cell hk3 2
  have q3 := blk_cell hk3 3
  have q4 := blk_cell hk3 4
  have q5 := blk_cell hk3 5
  simp only [List.getElem?_toArray, List.getElem?_cons_zero, List.getElem?_cons_succ] at q0 q1 q2 q3 q4 q5
  have HB1 := Aside0.mk (below_alloc (below_step HB0.out hb1) (.cells #[.slice A1 l1.length c1] 54))
  have HN : Aside0 ((w1.alloc (.cells #[.slice A1 l1.length c1] 54)).heap[w1.heap.size]? = some (.cells #[.slice A1 l1.length c1] 54 (0, 0))) := ⟨heap_alloc_new _ _⟩
  have HC := Aside0.mk (Kd.C_alloc hC1 (.cells #[.slice A1 l1.length c1] 54))
  clear hr1 hb1 hC1 hk3
  go_wp2_with fail
  refine (keys_Of.calls _ _ _ _ _ _ _ _ H2.out).mono ?_
  rintro e w2 ⟨v2, rfl, hr2, hb2⟩
  obtain ⟨A2, c2, rfl, hc2, hC2⟩ := Kd.R_reads hr2
  have HB2 := Aside0.mk (below_step HB1.out hb2)
  have HC1 := Aside0.mk (Kd.C_below HC.out hb2)
  have HC2 := Aside0.mk hC2
  have HV := Aside0.mk (blk_cell (blk_below HN.out hb2) 0)
  clear hr2 hb2 hC2
  go_wp2_with fail
  refine (containsK1_calls _ (fun x => l1.any fun y => meetB x y) A2 c2 l2 _ HC2.out hc2 (fun W x hW => inter1_calls _ A1 c1 l1 x W (pw_cell_below hW HV.out) (Kd.C_below HC1.out hW) hc1)).mono ?_
  rintro e w3 ⟨rfl, hb3⟩
  have HB3 := Aside0.mk (below_step HB2.out hb3)
  clear hb3
  go_wp2_with fail
  go_ret
  exact ⟨rfl, HB3.out⟩

/-! ### attr_deps_of: function 32 -/
def attr_deps_of.f (l0 : List Int) (a1 : Int) : Option (Int) := if a1 < 1 then (some 0) else (if a1 > (l0.length : Int) then (some 0) else (if 0 ≤ (wrap64 (a1 - 1)) then (if (wrap64 (a1 - 1)) < (l0.length : Int) then (some (rd l0 (wrap64 (a1 - 1)))) else (none)) else (none)))
set_option maxHeartbeats 8000000 in
set_option maxRecDepth 100000 in
theorem attr_deps_of.calls (A0 : Option Addr) (c0 : Nat) (l0 : List Int) (a1 : Int) (r : Int) (w : World) (hr0 : Kd.C (Kd.int .i64) w A0 l0.length l0) (hc0 : l0.length ≤ c0) (h : attr_deps_of.f l0 a1 = some r) :
  Calls Try.prog 32 #[.slice A0 l0.length c0, .int .i64 a1] w fun e w' => e = .returned (.int .i64 r) ∧ Drawn0 w w' := by
 have HR0 := Aside0.mk hr0
 have HC0 := Aside0.mk hc0
 clear hr0 hc0
 have H : (if a1 < 1 then (some 0) else (if a1 > (l0.length : Int) then (some 0) else (if 0 ≤ (wrap64 (a1 - 1)) then (if (wrap64 (a1 - 1)) < (l0.length : Int) then (some (rd l0 (wrap64 (a1 - 1)))) else (none)) else (none)))) = some r := h
 clear h
 by_cases c3 : a1 < 1
 ·
  rw [if_pos c3] at H
  have c3b0 : decide (a1 < 1) = true := decide_eq_true c3
  clear c3
  obtain rfl := Option.some.inj H
  go_enter Try.func32, Try.ntmps32
  go_wp2
  go_ret
  exact ⟨by first | rfl | (simp; done) | (simp [*]; done), by repeat (first | exact Drawn0.refl _ | apply Drawn0.step)⟩
 ·
  rw [if_neg c3] at H
  have c3b0 : decide (a1 < 1) = false := decide_eq_false c3
  clear c3
  by_cases c4 : a1 > (l0.length : Int)
  ·
   rw [if_pos c4] at H
   have c4b0 : decide ((l0.length : Int) < a1) = true := decide_eq_true c4
   clear c4
   obtain rfl := Option.some.inj H
   go_enter Try.func32, Try.ntmps32
   go_wp2
   go_ret
   exact ⟨by first | rfl | (simp; done) | (simp [*]; done), by repeat (first | exact Drawn0.refl _ | apply Drawn0.step)⟩
  ·
   rw [if_neg c4] at H
   have c4b0 : decide ((l0.length : Int) < a1) = false := decide_eq_false c4
   clear c4
   obtain ⟨ji5, hji5⟩ : ∃ j_ : Int, (wrap64 (a1 - 1)) = j_ := ⟨_, rfl⟩
   replace H : (if 0 ≤ (ji5) then (if (ji5) < (l0.length : Int) then (some (rd l0 (ji5))) else (none)) else (none)) = some r := by first | (rw [hji5] at H; exact H) | (simp only [hji5] at H ⊢; exact H)
   have hji5w : (IntKind.i64.wrap (a1 - 1)) = ji5 := (i64_w _).trans hji5
   by_cases c6 : 0 ≤ (ji5)
   ·
    rw [if_pos c6] at H
    have c6b0 : decide (0 ≤ (ji5)) = true := decide_eq_true c6
    clear c6
    by_cases c7 : (ji5) < (l0.length : Int)
    ·
     rw [if_pos c7] at H
     have c7b0 : decide ((ji5) < (l0.length : Int)) = true := decide_eq_true c7
     clear c7
     obtain rfl := Option.some.inj H
     have p128 : 0 ≤ ((ji5) : Int) := of_decide_eq_true (by first | (with_reducible assumption) | assumption)
     have q128 : (ji5) < (l0.length : Int) := of_decide_eq_true (by first | (with_reducible assumption) | assumption)
     obtain ⟨ad128, e128, hx128_0⟩ := Kd.at_int HR0.out (ji5) p128 q128
     cases e128
     replace p128 := eq_true p128
     replace q128 := eq_true q128
     go_enter Try.func32, Try.ntmps32
     go_wp2
     go_ret
     exact ⟨by first | rfl | (simp; done) | (simp only [← hji5] <;> (first | rfl | simp)) | (simp [*]; done), by repeat (first | exact Drawn0.refl _ | apply Drawn0.step)⟩
    ·
     rw [if_neg c7] at H
     exact absurd H (by simp)
   ·
    rw [if_neg c6] at H
    exact absurd H (by simp)

/-! ### attr_Within: function 21, by hand -/
-- making: yes
def attr_Within.f (a0_0 : Int) (l0_1 : List Int) (a1_0 : Int) (l1_1 : List Int) : Option Bool := some ((List.range (max l0_1.length l1_1.length)).all (fun i => decide (l0_1.getD i 0 ≤ l1_1.getD i 0)) && decide (a0_0 ≤ a1_0))
theorem within_no (a0_0 : Int) (l0_1 : List Int) (a1_0 : Int) (l1_1 : List Int) (r : Bool) (h : attr_Within.f a0_0 l0_1 a1_0 l1_1 = some r) (i : Nat) (hi : i < max l0_1.length l1_1.length) (hgt : l1_1.getD i 0 < l0_1.getD i 0) : r = false := by
  unfold attr_Within.f at h
  injection h with h
  rw [← h, Bool.and_eq_false_iff]
  left
  rw [List.all_eq_false]
  exact ⟨i, List.mem_range.2 hi, by simpa using hgt⟩
theorem within_yes (a0_0 : Int) (l0_1 : List Int) (a1_0 : Int) (l1_1 : List Int) (r : Bool) (h : attr_Within.f a0_0 l0_1 a1_0 l1_1 = some r) (hA : ∀ i, i < max l0_1.length l1_1.length → l0_1.getD i 0 ≤ l1_1.getD i 0) : r = decide (a0_0 ≤ a1_0) := by
  unfold attr_Within.f at h
  injection h with h
  rw [← h, List.all_eq_true.2 (fun i hi => by simpa using hA i (List.mem_range.1 hi)), Bool.true_and]
theorem dep_of (l : List Int) (hl : l.length ≤ 9223372036854775807) (i : Nat) (hi : i < 9223372036854775807) : attr_deps_of.f l ((i : Int) + 1) = some (l.getD i 0) := by
  have hw : wrap64 ((i : Int) + 1 - 1) = (i : Int) := by unfold wrap64; omega
  unfold attr_deps_of.f
  rw [if_neg (by omega), hw]
  by_cases h : i < l.length
  · rw [if_neg (by omega), if_pos (by omega), if_pos (by omega)]; simp [rd]
  · rw [if_pos (by omega), List.getD_eq_getElem?_getD, List.getElem?_eq_none (by omega)]; rfl
set_option maxHeartbeats 8000000 in
set_option maxRecDepth 100000 in
theorem attr_Within.calls (a0_0 : Int) (A0_1 : Option Addr) (c0_1 : Nat) (l0_1 : List Int) (a1_0 : Int) (A1_1 : Option Addr) (c1_1 : Nat) (l1_1 : List Int) (r : Bool) (w : World) (hr0_1 : Kd.C (Kd.int .i64) w A0_1 l0_1.length l0_1) (hc0_1 : l0_1.length ≤ c0_1) (hr1_1 : Kd.C (Kd.int .i64) w A1_1 l1_1.length l1_1) (hc1_1 : l1_1.length ≤ c1_1) (h : attr_Within.f a0_0 l0_1 a1_0 l1_1 = some r) :
    Calls Try.prog 21 #[.agg #[.int .i64 a0_0, .slice A0_1 l0_1.length c0_1], .agg #[.int .i64 a1_0, .slice A1_1 l1_1.length c1_1]] w fun e w' => e = .returned (.bool r) ∧ Below w.heap.size w w' := by
  have hu := Try.underlying32
  have HR0 := Aside0.mk hr0_1
  have HR1 := Aside0.mk hr1_1
  have hlen0 : l0_1.length ≤ 9223372036854775807 := hr0_1.2.1
  have hlen1 : l1_1.length ≤ 9223372036854775807 := hr1_1.2.1
  clear hr0_1 hr1_1
  by_cases hmx : l0_1.length < l1_1.length
  all_goals
    go_enter Try.func21, Try.ntmps21
    go_wp2_with fail
    go_quiet (fail)
    go_wp2_with fail
    go_loopw [7, 21] (fun v7 v21 w' => ∃ i : Nat, i ≤ max l0_1.length l1_1.length ∧ v21 = .int .i64 i ∧ w'.cell? ⟨w.heap.size, 0, none⟩ = some (.int .i64 a0_0) ∧ w'.cell? ⟨w.heap.size + 1, 0, none⟩ = some (.int .i64 a1_0) ∧ Aside0 (∀ j, j < i → l0_1.getD j 0 ≤ l1_1.getD j 0) ∧ Aside0 (Below w.heap.size w w')) (fun _ v21 _ => max l0_1.length l1_1.length - (intOf v21).toNat)
    case atStart => exact ⟨0, by omega, rfl, by go_simp, by go_simp, ⟨fun j hj => absurd hj (by omega)⟩, ⟨pw_below_drewN (below_alloc (below_alloc (Below.refl _ _) _) _) _⟩⟩
    case round =>
      obtain ⟨i, hi, rfl, hc0, hc1, HA, HB⟩ := hrel
      by_cases hlt : i < max l0_1.length l1_1.length
      · obtain ⟨x, HX, HD0⟩ : ∃ x, Aside0 (l0_1.getD i 0 = x) ∧ Aside0 (attr_deps_of.f l0_1 ((i : Int) + 1) = some x) := ⟨_, ⟨rfl⟩, ⟨dep_of l0_1 hlen0 i (by omega)⟩⟩
        obtain ⟨y, HY, HD1⟩ : ∃ y, Aside0 (l1_1.getD i 0 = y) ∧ Aside0 (attr_deps_of.f l1_1 ((i : Int) + 1) = some y) := ⟨_, ⟨rfl⟩, ⟨dep_of l1_1 hlen1 i (by omega)⟩⟩
        go_wp2_with fail
        refine (attr_deps_of.calls A0_1 c0_1 l0_1 _ _ _ (Kd.C_below HR0.out HB.out) hc0_1 HD0.out).mono ?_
        rintro e w1 ⟨rfl, ⟨n1, rfl⟩⟩
        go_wp2_with fail
        refine (attr_deps_of.calls A1_1 c1_1 l1_1 _ _ _ (Kd.C_below (Kd.C_below HR1.out HB.out) (pw_below_drewN (Below.refl _ _) _)) hc1_1 HD1.out).mono ?_
        rintro e w1 ⟨rfl, ⟨n2, rfl⟩⟩
        go_wp2_with fail
        · have hgt : y < x := by assumption
          go_ret
          exact ⟨by rw [within_no a0_0 l0_1 a1_0 l1_1 r h i hlt (by rw [HX.out, HY.out]; exact hgt)]; rfl, pw_below_drewN HB.out _⟩
        · have hle : ¬ y < x := by omega
          go_roundw
          case rel => exact ⟨i + 1, by omega, by go_num, by go_simp, by go_simp, ⟨fun j hj => by rcases Nat.lt_or_ge j i with h1 | h1; exact HA.out j h1; rw [show j = i by omega, HX.out, HY.out]; omega⟩, ⟨pw_below_drewN HB.out _⟩⟩
          case measure => simp [intOf]; omega
      · go_wp2_with fail
        go_ret
        exact ⟨by rw [within_yes a0_0 l0_1 a1_0 l1_1 r h (fun j hj => HA.out j (by omega))]; rfl, HB.out⟩

end Go.Proofs.Ytgenfbpaooeofaa.P
