/- The plain side of the law IndexPlace. No condition but each theorem's own. -/
import Derived.Test.YtgenfbpaooeofaaPx0
import Derived.Test.YtgenfbpaooeofaaPx5
import Derived.Test.YtgenfbpaooeofaaIdxD
import Derived.Test.YtgenfbpaooeofaaWkPlace
namespace Go.Proofs.Ytgenfbpaooeofaa.P
open Go.RowKit Go.Proofs.YtgenfbpaooeofaaW.PrintWords Go.Proofs.YtgenfbpaooeofaaW.PrintLast Go.Proofs.YtgenfbpaooeofaaW.PrintMore
set_option linter.unusedVariables false
set_option linter.unusedSimpArgs false
theorem IndexPlace.law (l : List S29) (a b : S29) (c : S24) (sf : S26) (n : Int) (w : World) (A0 : Option Addr) (c0 : Nat) (hr0 : Kd.C k29 w A0 l.length l) (hc0 : l.length ≤ c0) :
    Calls Try.prog 6 #[.slice A0 l.length c0, knV a, knV b, .agg #[.int .i64 c.f0, .int .i64 c.f1, .int .i64 c.f2, .int .i64 c.f3, .int .i64 c.f4, .string c.f5], insV sf, .int .i64 n] w fun e w' => e = .returned (.bool true) ∧ Below w.heap.size w w' := by
  refine IndexPlace.calls A0 c0 l a b c sf n w hr0 hc0 (fun _ _ _ _ => ?_)
  have hX := SInv.put (SInv.puts l (SInv.put (SInv.zero (bnd n)) a)) (inPlace a b)
  have hY := SInv.put (SInv.puts l (SInv.zero (bnd n))) (inPlace a b)
  have hoff := puts_off (bnd n) a.f0 l (putS (bnd n) ix0 a) ix0 (fun i hi => by rw [get_putS, if_neg (fun q => hi q.2)])
  have he : ∀ i, M.get (putS (bnd n) (l.foldl (putS (bnd n)) (putS (bnd n) ix0 a)) (inPlace a b)).1 i = M.get (putS (bnd n) (l.foldl (putS (bnd n)) ix0) (inPlace a b)).1 i := fun i => by
    by_cases hi : i = a.f0
    · by_cases hm : mayI (bnd n) a.f0 = true
      · rw [get_putS, get_putS, if_pos ⟨hm, hi⟩, if_pos ⟨hm, hi⟩]
      · rw [hX.no (by rw [hi]; exact hm), hY.no (by rw [hi]; exact hm)]
    · rw [get_putS, get_putS, if_neg (fun q => hi q.2), if_neg (fun q => hi q.2)]
      exact hoff i hi
  refine ⟨?_, hX.len hY he⟩
  rw [hX.attr hY c sf (fun i _ => he i)]
  exact sm_refl _ _
end Go.Proofs.Ytgenfbpaooeofaa.P
