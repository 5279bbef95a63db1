/- Sorting: slices.Clone, slices.SortStableFunc, and score.Sort. No condition but each theorem's own. -/
import Derived.Test.YtlobedghenflfaaSortS
namespace Go.Proofs.Ytlobedghenflfaa.P
open Go.RowKit Go.Proofs.YtlobedghenflfaaW.PrintWords Go.Proofs.YtlobedghenflfaaW.PrintLast Go.Proofs.YtlobedghenflfaaW.PrintMore Go.Proofs.Ytlobedghenflfaa.S
set_option linter.unusedVariables false
set_option linter.unusedSimpArgs false
theorem info64 : (Try.prog.info? 22).map (fun i => (i.zero, i.size, i.bytes)) = some (some (.int .u64 0), 1, 8) := by kernel_rfl
set_option maxHeartbeats 8000000 in
set_option maxRecDepth 100000 in
theorem clone_calls (A0 : Option Addr) (c0 : Nat) (l0 : List Int) (w : World) (hr0 : Kd.C (Kd.int .u64) w A0 l0.length l0) (hc0 : l0.length ≤ c0) (hl : l0.length ≤ 17592186044416) :
    Calls Try.prog 27 #[.slice A0 l0.length c0] w fun e w' => ∃ v1, e = .returned v1 ∧ Kd.R (Kd.int .u64) 22 w' w.heap.size (fun _ => True) v1 l0 ∧ Below w.heap.size w w' := by
  have huS := Try.underlying23
  have hI := Try.underlying22
  have HR := Aside0.mk hr0
  clear hr0
  cases A0 with
  | none =>
    have hq := Go.Lib.run_eql_slice_nil (P := Try.prog) w 23 22 none l0.length c0 0 0 huS
    have h0 : l0 = [] := by
      rcases Nat.eq_zero_or_pos l0.length with h | h
      · exact List.length_eq_zero_iff.1 h
      · obtain ⟨ad, e, _⟩ := HR.out.2.2 h; cases e
    subst h0
    simp only [List.length_nil] at hq ⊢
    go_enter Try.func27, Try.ntmps27
    go_wp2_with fail
    go_ret
    exact ⟨_, rfl, Kd.R_nil _ _ _ _ _, Below.refl _ _⟩
  | some ad =>
    have hq := Go.Lib.run_eql_slice_nil (P := Try.prog) w 23 22 (some ad) l0.length c0 0 0 huS
    have HO : Aside0 ((Kd.int .u64).R 22 (w.alloc (.cells #[] 22)) w.heap.size (fun _ => True) (.slice (some ⟨w.heap.size, 0, none⟩) 0 0) ([] : List Int)) := ⟨Kd.R_of_own ⟨rfl, .inr ⟨w.heap.size, 0, #[], rfl, Nat.le_refl _, heap_alloc_new w _, Nat.le_refl _, by decide, rfl, by simp; rfl⟩⟩ (fun _ _ => trivial)⟩
    go_enter Try.func27, Try.ntmps27
    go_wp2_with (first | ((with_reducible refine gate_dst (N := 7) rfl ?_); refine Kd.R_append_rows (Kd.int .u64) (w0 := w) w.heap.size (by rfl) (.tmp 5) (.tmp 6) 23 22 (.int .u64 0) 8 rfl Try.underlying23 info64 rfl (by decide) (by omega) (.slice (some ⟨w.heap.size, 0, none⟩) 0 0) ([] : List Int) l0 _ _ _ (fun _ => True) (fun _ => False) rfl rfl HO.out ?aR (fun _ _ h => h) (fun _ h => h.elim) (fun _ _ => trivial) (below_alloc (Below.refl _ _) _) (below_size (below_alloc (Below.refl _ _) _)) ?aL ?_; (case aR => exact Kd.C_alloc HR.out _); (case aL => simp only [List.length_nil]; omega); intro v1 w1 ho hb hg hat; (have HO1 := Aside0.mk ho); (have HB1 := Aside0.mk hb); clear ho hb hg hat))
    go_ret
    exact ⟨_, rfl, HO1.out, HB1.out⟩
theorem insertion_none (v f : Value) (w : World) : Calls Try.prog 46 #[v, .int .i64 0, .int .i64 0, f] w fun e w' => e = .returned (.tuple #[]) ∧ w' = w := by
  go_enter Try.func46, Try.ntmps46
  go_wp2_with fail
  refine wp_loop_rounds 1 ?_
  rw [rounds_succ]
  go_wp2_with fail
  exact bodyPost_end (v := .tuple #[]) (by simp [results, Try.results46, go_sem]) rfl ⟨rfl, rfl⟩
theorem stable_none (v f : Value) (w : World) : Calls Try.prog 41 #[v, .int .i64 0, f] w fun e w' => e = .returned (.tuple #[]) ∧ w' = w := by
  go_enter Try.func41, Try.ntmps41
  go_wp2_with fail
  refine wp_loop_rounds 1 ?_
  rw [rounds_succ]
  go_wp2_with fail
  refine (insertion_none v f w).mono ?_
  rintro e w1 ⟨rfl, rfl⟩
  go_wp2_with fail
  refine wp_loop_rounds 1 ?_
  rw [rounds_succ]
  go_wp2_with fail
  exact bodyPost_end (v := .tuple #[]) (by simp [results, Try.results41, go_sem]) rfl ⟨rfl, rfl⟩
theorem sortStable_calls (g n cap : Nat) (d : List Int) (w : World) (h : Row w g n cap d) (hW : Wd d) (hn : n ≤ 1099511627776) :
    Calls Try.prog 28 #[.slice (some ⟨g, 0, none⟩) n cap, fv] w fun e w' => e = .returned (.tuple #[]) ∧ Row w' g n cap (sortS kz d) ∧ Kp g w w' := by
  have HC := Aside0.mk (stable_calls g n cap d w h hW hn)
  clear h hW
  unfold fv at HC ⊢
  go_enter Try.func28, Try.ntmps28
  go_wp2_with fail
  refine HC.out.mono ?_
  rintro e w1 ⟨rfl, h1, h2⟩
  go_wp2_with fail
  exact bodyPost_end (v := .tuple #[]) (by simp [results, Try.results28, go_sem]) rfl ⟨rfl, h1, h2⟩
theorem sortStable_none (A : Option Addr) (cap : Nat) (w : World) : Calls Try.prog 28 #[.slice A 0 cap, fv] w fun e w' => e = .returned (.tuple #[]) ∧ w' = w := by
  unfold fv
  go_enter Try.func28, Try.ntmps28
  go_wp2_with fail
  refine (stable_none _ _ w).mono ?_
  rintro e w1 ⟨rfl, rfl⟩
  go_wp2_with fail
  exact bodyPost_end (v := .tuple #[]) (by simp [results, Try.results28, go_sem]) rfl ⟨rfl, rfl⟩
theorem sort_calls (A0 : Option Addr) (c0 : Nat) (l : List Int) (w : World) (hr0 : Kd.C (Kd.int .u64) w A0 l.length l) (hc0 : l.length ≤ c0) (hl : l.length ≤ 1099511627776) (hW : Wd l) :
    Calls Try.prog 16 #[.slice A0 l.length c0] w fun e w' => ∃ v1, e = .returned v1 ∧ Kd.R (Kd.int .u64) 22 w' w.heap.size (fun _ => True) v1 (sortS kz l) ∧ Below w.heap.size w w' := by
  have HC := Aside0.mk (clone_calls A0 c0 l w hr0 hc0 (by omega))
  clear hr0
  go_enter Try.func16, Try.ntmps16
  go_wp2_with fail
  refine HC.out.mono ?_
  rintro e w1 ⟨v1, rfl, hR, hB⟩
  have HB := Aside0.mk hB
  clear hB
  by_cases hl0 : l.length = 0
  · have e0 : l = [] := List.length_eq_zero_iff.1 hl0
    subst e0
    obtain ⟨A1, c1, rfl⟩ := Kd.R_slice hR
    have HR := Aside0.mk hR
    clear hR
    simp only [List.length_nil] at HR ⊢
    go_wp2_with fail
    have hn := sortStable_none A1 c1 w1
    unfold fv at hn
    refine hn.mono ?_
    rintro e w2 ⟨rfl, rfl⟩
    clear hn
    go_wp2_with fail
    go_ret
    exact ⟨_, rfl, HR.out, HB.out⟩
  · obtain ⟨g, cap, rfl, hg, hgl, cs1, hcs⟩ := Kd.R_form hR (by omega)
    have HRow : Aside0 (Row w1 g l.length cap l) := ⟨⟨Kd.R_lower hR (Nat.zero_le _)⟩⟩
    clear hR hcs
    go_wp2_with fail
    have hn := sortStable_calls g l.length cap l w1 HRow.out hW hl
    unfold fv at hn
    refine hn.mono ?_
    rintro e w2 ⟨rfl, hR2, hK2⟩
    have HE : Aside0 (Kd.R (Kd.int .u64) 22 w2 w.heap.size (fun _ => True) (.slice (some ⟨g, 0, none⟩) l.length cap) (sortS kz l) ∧ Below w.heap.size w w2) := ⟨by
      refine ⟨Kd.R_raise (b := 0) (b' := w.heap.size) (fun _ _ _ _ h => h) hR2.R (fun k hk => by
        have : k = g := by simpa [Value.ownBlock] using hk.symm
        omega), ⟨hK2.os.trans HB.out.os, hK2.tape.trans HB.out.tape, hK2.output.trans HB.out.output, by rw [hK2.size]; exact HB.out.size, fun k hk => ?_⟩⟩
      exact (hK2.block k (by omega)).trans (HB.out.block k hk)⟩
    clear hn hR2 hK2
    go_wp2_with fail
    go_ret
    exact ⟨_, rfl, HE.out.1, HE.out.2⟩
end Go.Proofs.Ytlobedghenflfaa.P
