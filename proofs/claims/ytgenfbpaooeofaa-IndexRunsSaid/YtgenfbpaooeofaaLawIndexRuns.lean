/- The plain side of the law IndexRuns. No condition but each theorem's own. -/
import Derived.Test.YtgenfbpaooeofaaPx0
import Derived.Test.YtgenfbpaooeofaaPx5
import Derived.Test.YtgenfbpaooeofaaIdxD
import Derived.Test.YtgenfbpaooeofaaWkRuns
namespace Go.Proofs.Ytgenfbpaooeofaa.P
open Go.RowKit Go.Proofs.YtgenfbpaooeofaaW.PrintWords Go.Proofs.YtgenfbpaooeofaaW.PrintLast Go.Proofs.YtgenfbpaooeofaaW.PrintMore
set_option linter.unusedVariables false
set_option linter.unusedSimpArgs false
/-- an index and the document's list know the same -/
structure RInv (m : Int) (s : Ixs) (all : List S29) : Prop where
  inv : SInv m s
  pw : all.Pairwise (fun a b => a.f0 ≠ b.f0)
  mem : ∀ k, k ∈ all ↔ M.get s.1 k.f0 = some k
theorem RInv.put {m : Int} {s : Ixs} {all : List S29} (h : RInv m s all) (k : S29) : RInv m (putS m s k) (refP m all k) := by
  refine ⟨h.inv.put k, ?_, fun x => ?_⟩
  · unfold refP
    split
    · rw [List.pairwise_append]
      refine ⟨h.pw.filter _, by simp, fun a ha b hb => ?_⟩
      rw [List.mem_singleton.1 hb]
      have := (List.mem_filter.1 ha).2
      simpa using this
    · exact h.pw
  · rw [get_putS]
    unfold refP
    by_cases hm : mayI m k.f0 = true
    · rw [if_pos hm, List.mem_append, List.mem_filter, List.mem_singleton]
      by_cases e : x.f0 = k.f0
      · rw [if_pos ⟨hm, e⟩]
        constructor
        · rintro (⟨_, h2⟩ | h2)
          · simp [e] at h2
          · rw [h2]
        · intro h2; exact Or.inr (Option.some.inj h2).symm
      · rw [if_neg (fun q => e q.2)]
        constructor
        · rintro (⟨h2, _⟩ | h2)
          · exact (h.mem x).1 h2
          · exact absurd (by rw [h2]) e
        · intro h2; exact Or.inl ⟨(h.mem x).2 h2, by simp [e]⟩
    · rw [if_neg hm, if_neg (fun q => hm q.1)]
      exact h.mem x
theorem RInv.puts {m : Int} : ∀ (l : List S29) {s : Ixs} {all : List S29}, RInv m s all → RInv m (l.foldl (putS m) s) (l.foldl (refP m) all)
  | [], _, _, h => h
  | k :: l, _, _, h => by rw [List.foldl_cons, List.foldl_cons]; exact RInv.puts l (h.put k)
theorem refP_len (m : Int) : ∀ (l all : List S29), (l.foldl (refP m) all).length ≤ all.length + l.length
  | [], all => by simp
  | k :: l, all => by
    rw [List.foldl_cons]
    refine Nat.le_trans (refP_len m l _) ?_
    have : (refP m all k).length ≤ all.length + 1 := by
      unfold refP
      split
      · rw [List.length_append]
        have := List.length_filter_le (fun x : S29 => !(decide (x.f0 = k.f0))) all
        simp only [List.length_cons, List.length_nil]
        omega
      · omega
    rw [List.length_cons]
    omega
theorem refP_mem (m : Int) : ∀ (l all : List S29) (x : S29), x ∈ l.foldl (refP m) all → x ∈ all ∨ x ∈ l
  | [], all, x, h => Or.inl h
  | k :: l, all, x, h => by
    rw [List.foldl_cons] at h
    rcases refP_mem m l _ x h with h | h
    · unfold refP at h
      split at h
      · rcases List.mem_append.1 h with h | h
        · exact Or.inl (List.mem_filter.1 h).1
        · exact Or.inr (by rw [List.mem_singleton.1 h]; simp)
      · exact Or.inl h
    · exact Or.inr (List.mem_cons_of_mem _ h)
theorem sp_fold (m : Int) (c : S24) (sf : S26) : ∀ (all : List S29) (a : Int × List Int), all.foldl (spS m c sf) a = ((all.filter (fun k => mayI m k.f0 && interK c k.f1)).map (fun k => (k.f0, k.f2))).foldl (stepA sf) a
  | [], a => rfl
  | k :: all, a => by
    rw [List.foldl_cons, sp_fold m c sf all]
    by_cases h : (mayI m k.f0 && interK c k.f1) = true
    · rw [List.filter_cons_of_pos (by exact h), List.map_cons, List.foldl_cons]
      congr 1
      unfold spS stepA relB
      rw [h, Bool.true_and]
      by_cases e : k.f0 = sf
      · rw [if_pos e, if_neg (by simp [e])]
      · rw [if_neg e, if_pos (by simp [e])]
    · rw [List.filter_cons_of_neg (by exact h)]
      congr 1
      unfold spS relB
      rw [if_neg]
      intro q
      simp only [Bool.and_eq_true] at q h
      exact h q.1
theorem RInv.tells {m : Int} (hm : 1 ≤ m) {s : Ixs} {all : List S29} (h : RInv m s all) (c : S24) (sf : S26) (hk : ∀ k ∈ all, k.f2 ≤ 1099511627776) : attrP m s.2 c sf = ofP m all c sf := by
  rw [ofP_eq m hm c sf all hk]
  have hg := (ofP_from m hm c sf all (0, List.replicate m.toNat 0) (good_zero m) hk).2
  have e : foldA sf m s.2 (kOf c) = all.foldl (spS m c sf) (0, List.replicate m.toNat 0) := by
    rw [sp_fold]
    unfold foldA
    refine fold_same sf _ (fun q _ => ?_)
    rw [h.inv.rows, List.mem_map]
    constructor
    · rintro ⟨k, g1, g2, g3⟩
      obtain ⟨e1, e2⟩ := h.inv.key _ k g1
      refine ⟨k, List.mem_filter.2 ⟨(h.mem k).2 (by rw [e1]; exact g1), ?_⟩, Prod.ext e1 g2.symm⟩
      rw [e1, e2, g3]; rfl
    · rintro ⟨k, g1, rfl⟩
      obtain ⟨g1, g2⟩ := List.mem_filter.1 g1
      simp only [Bool.and_eq_true] at g2
      exact ⟨k, (h.mem k).1 g1, rfl, g2.2⟩
  unfold attrP
  rw [e]
  have hg1 := hg.1
  have hg2 := hg.2.1
  refine Prod.ext ?_ rfl
  show wrap64 (_ + 1) = _ + 1
  unfold wrap64
  omega
theorem RInv.len {m : Int} {s : Ixs} {all : List S29} (h : RInv m s all) : s.1.length = all.length := by
  have hn : (all.map (·.f0)).Nodup := List.pairwise_map.2 h.pw
  have := len_same _ _ h.inv.nd hn (fun a => by
    rw [← get_key, List.mem_map]
    constructor
    · rintro ⟨v, g⟩
      have e := (h.inv.key a v g).1
      exact ⟨v, (h.mem v).2 (by rw [e]; exact g), e⟩
    · rintro ⟨k, g, rfl⟩
      exact ⟨k, (h.mem k).1 g⟩)
  simpa using this
theorem IndexRuns.law (l : List S29) (c : S24) (sf : S26) (n : Int) (w : World) (A0 : Option Addr) (c0 : Nat) (hr0 : Kd.C k29 w A0 l.length l) (hc0 : l.length ≤ c0) :
    Calls Try.prog 4 #[.slice A0 l.length c0, .agg #[.int .i64 c.f0, .int .i64 c.f1, .int .i64 c.f2, .int .i64 c.f3, .int .i64 c.f4, .string c.f5], insV sf, .int .i64 n] w fun e w' => e = .returned (.bool true) ∧ Below w.heap.size w w' := by
  refine IndexRuns.calls A0 c0 l c sf n w hr0 hc0 (fun _ i hi hk => ?_)
  have h0 : RInv (bnd n) ix0 [] := ⟨SInv.zero _, List.Pairwise.nil, fun k => by simp [ix0, M.get]⟩
  have h := RInv.puts (l.take i) h0
  have hs : ∀ k ∈ (l.take i).foldl (refP (bnd n)) [], k.f2 ≤ 1099511627776 := fun k hq => by
    rcases refP_mem _ _ _ k hq with g | g
    · cases g
    · exact hk k g
  refine ⟨?_, hs, h.tells (bnd_in n).1 c sf hs, h.len⟩
  have := refP_len (bnd n) (l.take i) []
  simp only [List.length_nil, List.length_take] at this
  omega
end Go.Proofs.Ytgenfbpaooeofaa.P
