/- Plain Lean functions and their contracts over the translation, written by a program of this session (myprint.py, over the kit's print); no condition but each contract's own. -/
import Derived.Test.YtcpphhibelaplaaPx0
import Derived.Test.YtcpphhibelaplaaPx2
namespace Go.Proofs.Ytcpphhibelaplaa.P
open Go.RowKit Go.Proofs.YtcpphhibelaplaaW.PrintWords Go.Proofs.YtcpphhibelaplaaW.PrintLast Go.Proofs.YtcpphhibelaplaaW.PrintMore
attribute [local go_sem] max2_int min2_int max_two min_two max_three min_three max_four min_four   -- for this text's walks alone
set_option linter.unusedVariables false
set_option linter.unusedSimpArgs false

-- NOT PRINTED: function 21 (api_Ballot)

/-! ### ballot_Most: function 13, by hand -/
-- making: yes
/-- the greatest so far, and one more -/
def more1 (m : Int × Int) (x : S23) : Int × Int := if cmpB x.f0 x.f1 m.1 m.2 > 0 then (x.f0, x.f1) else m
def mostOf : List S23 → Int × Int
  | [] => (0, 0)
  | x :: xs => xs.foldl more1 (x.f0, x.f1)
def ballot_Most.f (l0 : List S23) : Option (Int × Int) := some (mostOf l0)
theorem most_take (x : S23) (xs : List S23) (i : Nat) (hi : i < (x :: xs).length) (h0 : 0 < i) : mostOf ((x :: xs).take (i + 1)) = more1 (mostOf ((x :: xs).take i)) ((x :: xs).getD i z23) := by
  rw [List.take_succ_eq_append_getElem hi]
  obtain ⟨j, rfl⟩ : ∃ j, i = j + 1 := ⟨i - 1, by omega⟩
  simp only [List.take_succ_cons, mostOf, List.cons_append, List.foldl_append, List.foldl_cons, List.foldl_nil, List.getD_eq_getElem?_getD, List.getElem?_eq_getElem hi, Option.getD_some]
theorem set_first {w : World} {g : Nat} {t : TypeId} {x0 x1 : Value} (h : w.heap[g]? = some (.cells #[x0, x1] t (0, 0))) (u : Value) : (w.setCell ⟨g, 0, none⟩ u).cell? ⟨g, 0, none⟩ = some u := blk_cell (blk_set h 0 u) 0
theorem set_second {w : World} {g : Nat} {t : TypeId} {x0 x1 : Value} (h : w.heap[g]? = some (.cells #[x0, x1] t (0, 0))) (u v : Value) : ((w.setCell ⟨g, 0, none⟩ u).setCell ⟨g, 1, none⟩ v).cell? ⟨g, 1, none⟩ = some v := blk_cell (blk_set (blk_set h 0 u) 1 v) 1
set_option maxHeartbeats 8000000 in
set_option maxRecDepth 100000 in
theorem maxfunc_calls (A0 : Option Addr) (c0 : Nat) (l0 : List S23) (w : World) (hr0 : Kd.C k23 w A0 l0.length l0) (hc0 : l0.length ≤ c0) (hn : 0 < l0.length) :
    Calls Try.prog 21 #[.slice A0 l0.length c0, .func (.func 9) #[] #[]] w fun e w' => e = .returned (.agg #[.int .i64 (mostOf l0).1, .int .i64 (mostOf l0).2]) ∧ Below w.heap.size w w' := by
  have hu := Try.underlying23
  have hu33 := Try.underlying33
  have HR := Aside0.mk hr0
  have hlen : l0.length ≤ 9223372036854775807 := hr0.2.1
  clear hr0
  obtain ⟨n, HN, HR, hlen, hc0, hn⟩ : ∃ n, Aside0 (l0.length = n) ∧ Aside0 (Kd.C k23 w A0 n l0) ∧ n ≤ 9223372036854775807 ∧ n ≤ c0 ∧ 0 < n := ⟨_, ⟨rfl⟩, HR, hlen, hc0, hn⟩
  rw [HN.out]
  obtain ⟨ad, e0, h00, h01⟩ := at_T23 HR.out 0 (by omega) (by omega)
  subst e0
  have ez : ad.add 0 = ad := rfl
  obtain ⟨x, hx⟩ : ∃ x, rd_T23 l0 0 = x := ⟨_, rfl⟩
  simp only [Int.toNat_zero, Nat.zero_mul, ez, hx] at h00 h01
  have HX := Aside0.mk hx
  have k00 := pw_cell_below (below_alloc (Below.refl w.heap.size w) (.cells #[.int .i64 0, .int .i64 0] 23)) h00
  have k01 := pw_cell_below (below_alloc (Below.refl w.heap.size w) (.cells #[.int .i64 0, .int .i64 0] 23)) h01
  clear ez h00 h01 hx
  go_enter Try.func21, Try.ntmps21
  go_wp2_with fail
  go_loopw [6] (fun v6 w' => ∃ i : Nat, 1 ≤ i ∧ i ≤ n ∧ v6 = .int .i64 i ∧ Aside0 (w'.heap[w.heap.size]? = some (.cells #[.int .i64 0, .int .i64 0] 23 (0, 0))) ∧ Aside0 (w'.heap[w.heap.size + 1]? = some (.cells #[.int .i64 (mostOf (l0.take i)).1, .int .i64 (mostOf (l0.take i)).2] 23 (0, 0))) ∧ Aside0 (Below w.heap.size w w')) (fun v6 _ => n - (intOf v6).toNat)
  case atStart =>
    refine ⟨1, Nat.le_refl _, by omega, rfl, ⟨?_⟩, ⟨?_⟩, ⟨below_alloc (below_alloc (Below.refl _ _) _) _⟩⟩
    · rw [heap_alloc_old _ _ (by simp)]; exact heap_alloc_new _ _
    · have e1 : mostOf (l0.take 1) = (x.f0, x.f1) := by
        rw [← HX.out]
        cases l0 with
        | nil => have := HN.out; simp at this; omega
        | cons a l => rfl
      rw [e1]
      have := heap_alloc_new (w.alloc (.cells #[.int .i64 0, .int .i64 0] 23)) (.cells #[.int .i64 x.f0, .int .i64 x.f1] 23)
      simpa using this
  case round =>
    obtain ⟨i, hi1, hi, rfl, HB0, HB1, HB⟩ := hrel
    have c0_ := blk_cell HB1.out 0
    have c1_ := blk_cell HB1.out 1
    have f0_ := blk_frozen HB1.out 0
    have f1_ := blk_frozen HB1.out 1
    simp only [show ∀ (x y : Value), (#[x, y] : Array Value)[0]? = some x from fun _ _ => rfl, show ∀ (x y : Value), (#[x, y] : Array Value)[1]? = some y from fun _ _ => rfl] at c0_ c1_
    have hsz := blk_lt HB1.out
    by_cases hlt : i < n
    · obtain ⟨ad', e0, hx0, hx1⟩ := at_T23 (Kd.C_below HR.out HB.out) (i : Int) (by omega) (by omega)
      cases e0
      obtain ⟨y, hy⟩ : ∃ y, rd_T23 l0 (i : Int) = y := ⟨_, rfl⟩
      simp only [hy, Int.toNat_natCast] at hx0 hx1
      have HY := Aside0.mk hy
      clear hy
      obtain ⟨m, hm⟩ : ∃ m, mostOf (l0.take i) = m := ⟨_, rfl⟩
      simp only [hm] at c0_ c1_
      have HM := Aside0.mk hm
      clear hm
      have HC := Aside0.mk (cmp_eq y.f0 y.f1 m.1 m.2 0)
      go_wp2_with fail
      go_region_held3 (fun w' => w'.cell? (ad.add (i * 2)) = some (.int .i64 y.f0) ∧ w'.cell? ⟨(ad.add (i * 2)).block, (ad.add (i * 2)).off + 1, none⟩ = some (.int .i64 y.f1) ∧ w'.cell? ⟨w.heap.size + 1, 0, none⟩ = some (.int .i64 m.1) ∧ w'.cell? ⟨w.heap.size + 1, 1, none⟩ = some (.int .i64 m.2)) (first | go_keep | exact ⟨pw_cell_below hb1 hx0, pw_cell_below hb1 hx1, pw_cell_below hb1 c0_, pw_cell_below hb1 c1_⟩) (first | (go_at_call 9; refine (ballot_Cmp.calls 3 _ _ _ _ _ _ HC.out).mono ?_; rintro e w1 ⟨rfl, hb1⟩))
      have HBw : Aside0 (Below w.heap.size w w1) := ⟨below_step (below_drew HB.out) hb1⟩
      have HB0w := Aside0.mk (blk_below (g := w.heap.size) (w := wr.drew) HB0.out hb1)
      have HB1w := Aside0.mk (blk_below (g := w.heap.size + 1) (w := wr.drew) HB1.out hb1)
      have x0_ := pw_cell_below hb1 (show wr.drew.cell? _ = _ from hx0)
      have x1_ := pw_cell_below hb1 (show wr.drew.cell? _ = _ from hx1)
      clear hb1 hx0 hx1 c0_ c1_ f0_ f1_ hsz HB0 HB1 HB HC
      have c0_ := blk_cell HB1w.out 0
      have c1_ := blk_cell HB1w.out 1
      have f0_ := blk_frozen HB1w.out 0
      have f1_ := blk_frozen HB1w.out 1
      simp only [show ∀ (x y : Value), (#[x, y] : Array Value)[0]? = some x from fun _ _ => rfl, show ∀ (x y : Value), (#[x, y] : Array Value)[1]? = some y from fun _ _ => rfl] at c0_ c1_
      have hsz := blk_lt HB1w.out
      obtain ⟨q, HQ⟩ : ∃ q, Aside0 (cmpB y.f0 y.f1 m.1 m.2 = q) := ⟨_, ⟨rfl⟩⟩
      rw [HQ.out]
      have ht : mostOf (l0.take (i + 1)) = more1 m y := by
        rw [← HM.out, ← HY.out]
        have hl := HN.out
        cases l0 with
        | nil => simp at hl; omega
        | cons a l => rw [most_take a l i (by omega) (by omega)]; rfl
      have HT := Aside0.mk ht
      clear ht
      by_cases hq : 0 < q
      · go_wp2_with fail
        refine ⟨⟨i + 1, by omega, by omega, by go_num, ⟨?_⟩, ⟨?_⟩, ⟨(HBw.out.setCell (by simp) _).setCell (by simp) _⟩⟩, by simp [intOf]; omega⟩
        · exact blk_far (blk_far HB0w.out (by simp) _) (by simp) _
        · rw [HT.out, more1, if_pos (by rw [HQ.out]; exact hq)]
          exact blk_set (blk_set HB1w.out 0 _) 1 _
      · go_wp2_with fail
        refine ⟨⟨i + 1, by omega, by omega, by go_num, ⟨HB0w.out⟩, ⟨?_⟩, ⟨HBw.out⟩⟩, by simp [intOf]; omega⟩
        rw [HT.out, more1, if_neg (by rw [HQ.out]; exact hq), ← HM.out]
        exact HB1w.out
    · have d0_ := blk_cell HB0.out 0
      have d1_ := blk_cell HB0.out 1
      have g0_ := blk_frozen HB0.out 0
      have g1_ := blk_frozen HB0.out 1
      simp only [show ∀ (x y : Value), (#[x, y] : Array Value)[0]? = some x from fun _ _ => rfl, show ∀ (x y : Value), (#[x, y] : Array Value)[1]? = some y from fun _ _ => rfl] at d0_ d1_
      go_wp2_with fail
      have s0_ := set_first HB0.out (.int .i64 (mostOf (l0.take i)).1)
      have s1_ := set_second HB0.out (.int .i64 (mostOf (l0.take i)).1) (.int .i64 (mostOf (l0.take i)).2)
      refine bodyPost_ret (v := .agg #[.int .i64 (mostOf (l0.take i)).1, .int .i64 (mostOf (l0.take i)).2]) (by simp [results, Try.results21, go_sem, s0_, s1_]) rfl ⟨?_, (HB.out.setCell (by simp) _).setCell (by simp) _⟩
      rw [List.take_of_length_le (by have := HN.out; omega)]
set_option maxHeartbeats 8000000 in
set_option maxRecDepth 100000 in
theorem ballot_Most.calls (A0 : Option Addr) (c0 : Nat) (l0 : List (S23)) (r1 : Int) (r2 : Int) (w : World) (hr0 : Kd.C k23 w A0 l0.length l0) (hc0 : l0.length ≤ c0) (h : ballot_Most.f l0 = some (r1, r2)) :
    Calls Try.prog 13 #[.slice A0 l0.length c0] w fun e w' => e = .returned (.agg #[.int .i64 r1, .int .i64 r2]) ∧ Below w.heap.size w w' := by
  have hu := Try.underlying23
  have hu33 := Try.underlying33
  have hm : mostOf l0 = (r1, r2) := Option.some.inj h
  have HM := Aside0.mk hm
  have HR := Aside0.mk hr0
  have HN := heap_alloc_new w (.cells #[.int .i64 0, .int .i64 0] 23)
  clear h hm hr0
  by_cases h0 : l0.length = 0
  · have HL := Aside0.mk h0
    clear h0
    obtain ⟨n, hn, HE⟩ : ∃ n, n = 0 ∧ Aside0 (l0.length = n) := ⟨0, rfl, HL⟩
    rw [HE.out]
    subst hn
    clear HN
    go_enter Try.func13, Try.ntmps13
    go_wp2_with fail
    refine bodyPost_ret (v := .agg #[.int .i64 0, .int .i64 0]) (by simp [results, Try.results13, go_sem]) rfl ⟨?_, below_alloc (Below.refl _ _) _⟩
    have : l0 = [] := List.eq_nil_of_length_eq_zero HL.out
    subst this
    have := HM.out
    simp only [mostOf, Prod.mk.injEq] at this
    rw [← this.1, ← this.2]
  · obtain ⟨n, hn, HE⟩ : ∃ n, 0 < n ∧ Aside0 (l0.length = n) := ⟨_, by omega, ⟨rfl⟩⟩
    have hlen : n ≤ 9223372036854775807 := by rw [← HE.out]; exact HR.out.2.1
    have hb0 : ((n : Int) == 0) = false := beq_eq_false_iff_ne.2 (by omega)
    have HC : Aside0 (l0.length ≤ c0) := ⟨hc0⟩
    clear h0 hc0
    rw [HE.out]
    go_enter Try.func13, Try.ntmps13
    go_wp2_with fail
    rw [← HE.out]
    refine (maxfunc_calls A0 c0 l0 _ (Kd.C_below HR.out (below_alloc (Below.refl _ _) _)) HC.out (by rw [HE.out]; exact hn)).mono ?_
    rintro e w1 ⟨rfl, hb1⟩
    have HB1 := Aside0.mk (blk_below (g := w.heap.size) HN hb1)
    have HB := Aside0.mk (below_step (below_alloc (Below.refl _ _) _) hb1)
    clear hb1 HN
    have d0_ := blk_cell HB1.out 0
    have d1_ := blk_cell HB1.out 1
    have g0_ := blk_frozen HB1.out 0
    have g1_ := blk_frozen HB1.out 1
    simp only [show ∀ (x y : Value), (#[x, y] : Array Value)[0]? = some x from fun _ _ => rfl, show ∀ (x y : Value), (#[x, y] : Array Value)[1]? = some y from fun _ _ => rfl] at d0_ d1_
    rw [HM.out]
    have s0_ := set_first HB1.out (.int .i64 r1)
    have s1_ := set_second HB1.out (.int .i64 r1) (.int .i64 r2)
    go_wp2_with fail
    exact bodyPost_ret (v := .agg #[.int .i64 r1, .int .i64 r2]) (by simp [results, Try.results13, go_sem, s0_, s1_]) rfl ⟨rfl, (HB.out.setCell (by simp) _).setCell (by simp) _⟩

end Go.Proofs.Ytcpphhibelaplaa.P
