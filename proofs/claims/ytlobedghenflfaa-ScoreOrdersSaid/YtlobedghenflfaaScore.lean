/- The functions of layer 13 in plain words, and the chapter's examples; no condition but that a word has 64 bits. -/
import Derived.Test.YtlobedghenflfaaPx0
import Derived.Test.YtlobedghenflfaaPx1
import Derived.Test.YtlobedghenflfaaPx2
import Derived.Test.YtlobedghenflfaaPx5
namespace Go.Proofs.Ytlobedghenflfaa.P
open Go.RowKit Go.Proofs.YtlobedghenflfaaW.PrintWords Go.Proofs.YtlobedghenflfaaW.PrintLast Go.Proofs.YtlobedghenflfaaW.PrintMore
set_option linter.unusedVariables false
theorem bs {α β : Type} (a : α) (f : α → Option β) : (some a).bind f = f a := by exact Option.bind_some a f   -- not by 'rfl': the kernel isn't to open what stands behind
theorem awake_eq : colloquylaw13_awake.f = some true := by kernel_rfl
theorem quot_f (a b : Int) : score_Quotient.f a b = some ((Fl.quotW a b : Nat) : Int) := rfl
theorem of_f (a : Int) : score_Of.f a = some ((Fl.wholeW a : Nat) : Int) := rfl
theorem floor_f (x : Nat) (h : x < 2 ^ 64) : score_Floor.f (x : Int) = some (Fl.floorI x) := by
  unfold score_Floor.f; rw [if_pos ⟨by omega, by omega⟩, Int.toNat_natCast]
theorem cmp_f (x y : Nat) (hx : x < 2 ^ 64) (hy : y < 2 ^ 64) : score_Cmp.f (x : Int) (y : Int) = some (Fl.cmpI (Fl.keyW x) (Fl.keyW y)) := by
  unfold score_Cmp.f; rw [if_pos ⟨⟨by omega, by omega⟩, by omega, by omega⟩, Int.toNat_natCast, Int.toNat_natCast, Fl.cmpW_eq x y hx hy]
theorem quot_lt (a b : Int) : Fl.quotW a b < 2 ^ 64 := (Fl.quotW_spec a b).1
theorem cmpI_cases (a b : Int) : (a < b ∧ Fl.cmpI a b = -1) ∨ (a = b ∧ Fl.cmpI a b = 0) ∨ (b < a ∧ Fl.cmpI a b = 1) := by
  unfold Fl.cmpI
  rcases Int.lt_trichotomy a b with h | h | h
  · exact .inl ⟨h, by rw [if_pos h]⟩
  · exact .inr (.inl ⟨h, by rw [if_neg (by omega), if_neg (by omega)]⟩)
  · exact .inr (.inr ⟨h, by rw [if_neg (by omega), if_pos (by omega)]⟩)
theorem u64_range (x : Int) (h : (Lit.int .u64 x).wf = true) : ∃ X : Nat, x = X ∧ X < 2 ^ 64 := by
  have h' : (decide (IntKind.min .u64 ≤ x) && decide (x ≤ IntKind.max .u64)) = true := h
  have e1 : IntKind.min .u64 = 0 := rfl
  have e2 : IntKind.max .u64 = 18446744073709551615 := rfl
  rw [e1, e2, Bool.and_eq_true, decide_eq_true_eq, decide_eq_true_eq] at h'
  exact ⟨x.toNat, by omega, by omega⟩
end Go.Proofs.Ytlobedghenflfaa.P
