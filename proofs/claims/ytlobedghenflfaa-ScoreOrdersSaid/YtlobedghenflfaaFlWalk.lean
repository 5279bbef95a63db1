/- The walks through the float64 functions of layer 13: what each computes, in the words of the ladder; no condition but that a word has 64 bits. -/
import Derived.Test.YtlobedghenflfaaProg
import Derived.Test.YtlobedghenflfaaShort
import Derived.Below
import Derived.Deep.Draws
import Derived.Deep.AppendLies
import Derived.Maps.AppendAt
import Derived.OwnWalk
import Derived.Laws.BytesArg
import Derived.Laws.MakeOwn
import Derived.Laws.OwnMore
import Derived.Deep.OwnRows
import Derived.Tactics
import Derived.Lib.ConvBytes
import Derived.Laws.Slices
import Derived.WalkKit
import Derived.KernelRfl
import Derived.RowKit3
import Derived.Deep.LoopGhost
import Derived.Deep.QuietTactic
import Derived.BigQuiet
import Derived.WideLaws
import Derived.Deep.DeepCutAuto
import Derived.Deep.CutBlock
import Derived.Deep.RegionHeld3
import Derived.Laws.Rows
import Derived.Lib.AppendStr
import Derived.ArgAppend
import Derived.Laws.IdiomCopy
import Derived.OrdersHeld
import Derived.Laws.BitsLemmas
import Derived.RowKit
import Derived.Deep.WholeRow
import Derived.Lib.SliceRun
import Derived.Test.YtlobedghenflfaaWWords
import Derived.Test.YtlobedghenflfaaWLast
import Derived.Test.YtlobedghenflfaaWTab
import Derived.Test.YtlobedghenflfaaWFour
import Derived.Test.YtlobedghenflfaaWQPut
import Derived.Test.YtlobedghenflfaaWApart
import Derived.Test.YtlobedghenflfaaWArr
import Derived.Test.YtlobedghenflfaaWZeros
import Derived.Test.YtlobedghenflfaaWFoot
import Derived.Test.YtlobedghenflfaaWKept
import Derived.Test.YtlobedghenflfaaWShare
import Derived.Test.YtlobedghenflfaaWN
import Derived.Test.YtlobedghenflfaaWFootNe
import Derived.Test.YtlobedghenflfaaWAt
import Derived.Test.YtlobedghenflfaaWEqStruct
import Derived.Test.YtlobedghenflfaaWRepsOne
import Derived.Test.YtlobedghenflfaaWInv
import Derived.Test.YtlobedghenflfaaWInvWords
import Derived.Test.YtlobedghenflfaaWGuard
import Derived.Test.YtlobedghenflfaaWNEv
import Derived.Test.YtlobedghenflfaaWMore
import Derived.Test.YtlobedghenflfaaFloat
import Derived.Laws.Externs
import Derived.Laws.FloatArith
import Derived.Laws.BitsAllLaws
namespace Go.Proofs.Ytlobedghenflfaa.P
open Go.RowKit Go.Proofs.YtlobedghenflfaaW.PrintWords Go.Proofs.YtlobedghenflfaaW.PrintLast Go.Proofs.YtlobedghenflfaaW.PrintMore
attribute [local go_sem] max2_int min2_int max_two min_two max_three min_three max_four min_four   -- for this text's walks alone
set_option linter.unusedVariables false
set_option linter.unusedSimpArgs false
theorem bits_run (b : Nat) (w : World) : (callFunc 38 #[.float .f64 b]).run Try.prog w = .ok (.value (.int .u64 b)) w := by
  rw [run_callFunc_extern Try.func38 (by kernel_rfl) (by kernel_rfl) (by kernel_rfl) (e := Extern.MathFloatBits.float64bits) (by kernel_rfl)]; rfl
theorem frombits_run (b : Int) (w : World) : (callFunc 24 #[.int .u64 b]).run Try.prog w = .ok (.value (.float .f64 b.toNat)) w := by
  rw [run_callFunc_extern Try.func24 (by kernel_rfl) (by kernel_rfl) (by kernel_rfl) (e := Extern.MathFloatBits.float64frombits) (by kernel_rfl)]; rfl
theorem whole_calls (n : Int) (w : World) : Calls Try.prog 35 #[.int .i64 n] w fun e w' => e = .returned (.float .f64 (Fl.wholeW n)) ∧ ∃ k, w' = w.drewN k := by
  have hu3 := Try.underlying3
  have hu38 := Try.underlying38
  have hW : ∀ m, Fl.clampI n = m → Fl.wholeW n = floatOfInt .f64 m := fun m h => by unfold Fl.wholeW; rw [h]; rfl
  go_enter Try.func35, Try.ntmps35
  go_wp2_with fail
  all_goals
    go_ret
    refine ⟨(congrArg (fun b => Ending.returned (Value.float .f64 b)) (hW _ ?_)).symm, 0, rfl⟩
    unfold Fl.clampI; omega
theorem nan_calls (x : Nat) (w : World) : Calls Try.prog 30 #[.float .f64 x] w fun e w' => e = .returned (.bool (FloatKind.f64.format.order x x != some .eq)) ∧ ∃ k, w' = w.drewN k := by
  go_enter Try.func30, Try.ntmps30
  go_wp2_with fail
  go_ret
  exact ⟨rfl, 0, rfl⟩
theorem order_self (x : Nat) (hx : x < 2 ^ 64) : (FloatKind.f64.format.order x x != some .eq) = Fl.nanW x := by
  unfold Fl.nanW
  by_cases h : Fl.infR < Fl.rg x
  · rw [decide_eq_true h, show FloatKind.f64.format.order x x = none from Fl.order_nan x x hx hx (.inl h)]; rfl
  · rw [decide_eq_false h, show FloatKind.f64.format.order x x = _ from Fl.order_eq x x hx hx (by omega) (by omega)]
    rcases Fl.compare_cases (Fl.sr x) (Fl.sr x) with ⟨h, e⟩ | ⟨h, e⟩ | ⟨h, e⟩
    · omega
    · rw [e]; rfl
    · omega
theorem isnan_calls (x : Nat) (hx : x < 2 ^ 64) (w : World) : Calls Try.prog 30 #[.float .f64 x] w fun e w' => e = .returned (.bool (Fl.nanW x)) ∧ ∃ k, w' = w.drewN k := by
  rw [← order_self x hx]; exact nan_calls x w
theorem answer_calls (x : Nat) (hx : x < 2 ^ 64) (w : World) : Calls Try.prog 34 #[.float .f64 x] w fun e w' => e = .returned (.int .u64 (if Fl.nanW x = true then 9221120237041090560 else (x : Int))) ∧ ∃ k, w' = w.drewN k := by
  have hb := bits_run
  go_enter Try.func34, Try.ntmps34
  cases hn : Fl.nanW x
  all_goals
    go_wp2_with fail
    refine (isnan_calls x hx _).mono ?_
    rintro e w1 ⟨rfl, k, rfl⟩
    rw [hn]
    go_wp2_with fail
    go_ret
    exact ⟨by simp, k, rfl⟩
theorem quo_some (x y r : Nat) (h : Ieee.double.div x y = some r) (w : World) : (binOp .quo 38 (.float .f64 x) (.float .f64 y)).run Try.prog w = .ok (.float .f64 r) w :=
  run_float_arith w .quo 38 .f64 x y r h
theorem quo_none (x y : Nat) (h : Ieee.double.div x y = none) (w : World) : ∃ z, z < 2 ^ 64 ∧ Fl.nanW z = true ∧ (binOp .quo 38 (.float .f64 x) (.float .f64 y)).run Try.prog w = .ok (.float .f64 z) w.drew := by
  have h' : FloatKind.f64.format.div x y = none := h
  refine ⟨(w.tape w.drawn (.nanBits .f64 x y) % 2) * 2 ^ 63 + 0x7ff0000000000000 + 1 + (w.tape w.drawn (.nanBits .f64 x y) / 2) % (2 ^ 52 - 1), by omega, ?_, ?_⟩
  · unfold Fl.nanW Fl.rg Fl.infR
    rw [decide_eq_true_iff]
    have h1 : w.tape w.drawn (.nanBits .f64 x y) % 2 < 2 := Nat.mod_lt _ (by decide)
    have h2 : (w.tape w.drawn (.nanBits .f64 x y) / 2) % (2 ^ 52 - 1) < 2 ^ 52 - 1 := Nat.mod_lt _ (by decide)
    generalize w.tape w.drawn (.nanBits .f64 x y) % 2 = p at *
    generalize (w.tape w.drawn (.nanBits .f64 x y) / 2) % (2 ^ 52 - 1) = q at *
    rcases (show p = 0 ∨ p = 1 by omega) with rfl | rfl <;> omega
  · simp [binOp, Op.floatArith, h', Question.forced, Question.cut]
theorem quotW_some (a b : Int) (r : Nat) (h : Ieee.double.div (Fl.wholeW a) (Fl.wholeW b) = some r) : Fl.quotW a b = r := by unfold Fl.quotW; rw [h]
theorem quotW_none (a b : Int) (h : Ieee.double.div (Fl.wholeW a) (Fl.wholeW b) = none) : Fl.quotW a b = 9221120237041090560 := by unfold Fl.quotW; rw [h]
theorem quotW_num (a b : Int) (r : Nat) (h : Ieee.double.div (Fl.wholeW a) (Fl.wholeW b) = some r) : r < 2 ^ 64 ∧ Fl.nanW r = false := by
  have hs := Fl.quotW_spec a b
  rw [quotW_some a b r h] at hs
  obtain ⟨hlt, hs⟩ := hs
  refine ⟨hlt, ?_⟩
  unfold Fl.nanW
  rw [decide_eq_false_iff_not]
  rcases hs with ⟨hb, ha, _⟩ | ⟨_, _, e⟩ | ⟨_, _, e⟩ | ⟨_, _, R, e, _, _, r2⟩
  · subst hb ha; rw [Fl.wholeW_zero] at h; cases h
  · rw [e, (Fl.word_ng _ _ (by decide)).2.1]; omega
  · rw [e, (Fl.word_ng _ _ (by decide)).2.1]; omega
  · rw [e, (Fl.word_ng _ _ (by unfold Fl.infR at r2; omega)).2.1]; omega
theorem quotient_calls (a b : Int) (w : World) : Calls Try.prog 20 #[.int .i64 a, .int .i64 b] w fun e w' => e = .returned (.int .u64 (Fl.quotW a b : Nat)) ∧ ∃ k, w' = w.drewN k := by
  have hu38 := Try.underlying38
  cases hd : Ieee.double.div (Fl.wholeW a) (Fl.wholeW b) with
  | some r =>
    obtain ⟨hr, hn⟩ := quotW_num a b r hd
    have hq := quo_some _ _ r hd
    rw [quotW_some a b r hd]
    go_enter Try.func20, Try.ntmps20
    go_wp2_with fail
    refine (whole_calls a _).mono ?_
    rintro e w1 ⟨rfl, k1, rfl⟩
    go_wp2_with fail
    refine (whole_calls b _).mono ?_
    rintro e w1 ⟨rfl, k2, rfl⟩
    go_wp2_with fail
    refine (answer_calls r hr _).mono ?_
    rintro e w1 ⟨rfl, k3, rfl⟩
    go_wp2_with fail
    go_ret
    exact ⟨rfl, _, rfl⟩
  | none =>
    rw [quotW_none a b hd]
    go_enter Try.func20, Try.ntmps20
    go_wp2_with fail
    refine (whole_calls a _).mono ?_
    rintro e w1 ⟨rfl, k1, rfl⟩
    go_wp2_with fail
    refine (whole_calls b _).mono ?_
    rintro e w1 ⟨rfl, k2, rfl⟩
    obtain ⟨z, hz, hzn, hq⟩ := quo_none _ _ hd (w.drewN (k1 + k2))
    go_wp2_with fail
    refine (answer_calls z hz _).mono ?_
    rintro e w1 ⟨rfl, k3, rfl⟩
    rw [hzn]
    go_wp2_with fail
    go_ret
    exact ⟨rfl, _, rfl⟩
theorem wholeW_num (n : Int) : Fl.nanW (Fl.wholeW n) = false := by
  unfold Fl.nanW
  rw [decide_eq_false_iff_not]
  have : Fl.wholeW n = Fl.wholeW (Fl.clampI n) := by
    unfold Fl.wholeW; rw [Fl.clamp_id (Fl.clampI n) (by unfold Fl.clampI; omega) (by unfold Fl.clampI; omega)]
  rw [this]
  rcases Fl.wholeW_spec (Fl.clampI n) (by unfold Fl.clampI; omega) (by unfold Fl.clampI; omega) with ⟨_, e⟩ | ⟨_, R, e, _, _, r2⟩
  · rw [e, (Fl.word_ng _ _ (by decide)).2.1]; omega
  · rw [e, (Fl.word_ng _ _ (by omega)).2.1]; unfold Fl.infR; omega
theorem of_calls (n : Int) (w : World) : Calls Try.prog 22 #[.int .i64 n] w fun e w' => e = .returned (.int .u64 (Fl.wholeW n : Nat)) ∧ ∃ k, w' = w.drewN k := by
  have hn := wholeW_num n
  go_enter Try.func22, Try.ntmps22
  go_wp2_with fail
  refine (whole_calls n _).mono ?_
  rintro e w1 ⟨rfl, k1, rfl⟩
  go_wp2_with fail
  refine (answer_calls _ (Fl.wholeW_lt n) _).mono ?_
  rintro e w1 ⟨rfl, k3, rfl⟩
  rw [hn]
  go_wp2_with fail
  go_ret
  exact ⟨rfl, _, rfl⟩
theorem abs_calls (x : Nat) (hx : x < 2 ^ 64) (w : World) : Calls Try.prog 25 #[.float .f64 x] w fun e w' => e = .returned (.float .f64 (Fl.rg x)) ∧ ∃ k, w' = w.drewN k := by
  have hb := bits_run
  have hf := frombits_run
  go_enter Try.func25, Try.ntmps25
  go_wp2_with fail
  go_ret
  refine ⟨(congrArg (fun b => Ending.returned (Value.float .f64 b)) ?_), 0, rfl⟩
  rw [u64_andNot (x : Int) 9223372036854775808 (by omega) (by omega) (by omega) (by omega)]
  have e : x &&& (2 ^ 63 - 1) = x % 2 ^ 63 := Nat.and_two_pow_sub_one_eq_mod x 63
  exact e
theorem sign_calls (x : Nat) (hx : x < 2 ^ 64) (w : World) : Calls Try.prog 31 #[.float .f64 x] w fun e w' => e = .returned (.bool (Fl.ng x)) ∧ ∃ k, w' = w.drewN k := by
  have hb := bits_run
  have hu := Try.underlying22
  have hu2 := Try.underlying2
  go_enter Try.func31, Try.ntmps31
  go_wp2_with fail
  go_ret
  refine ⟨(congrArg (fun b => Ending.returned (Value.bool b)) ?_), 0, rfl⟩
  unfold Fl.ng
  by_cases h : 2 ^ 63 ≤ x
  · rw [decide_eq_true h, decide_eq_true_iff]; unfold wrap64; omega
  · rw [decide_eq_false h, decide_eq_false_iff_not]; unfold wrap64; omega
theorem isnan2_calls (x : Nat) (hx : x < 2 ^ 64) (w : World) : Calls Try.prog 42 #[.float .f64 x] w fun e w' => e = .returned (.bool (Fl.nanW x)) ∧ ∃ k, w' = w.drewN k := by
  rw [← order_self x hx]
  go_enter Try.func42, Try.ntmps42
  go_wp2_with fail
  go_ret
  exact ⟨rfl, 0, rfl⟩
theorem compare_calls (x y : Nat) (hx : x < 2 ^ 64) (hy : y < 2 ^ 64) (nx : Fl.nanW x = false) (ny : Fl.nanW y = false) (w : World) :
    Calls Try.prog 32 #[.float .f64 x, .float .f64 y] w fun e w' => e = .returned (.int .i64 (if (FloatKind.f64.format.order x y == some .lt) = true then -1 else if (FloatKind.f64.format.order x y == some .gt) = true then 1 else 0)) ∧ ∃ k, w' = w.drewN k := by
  cases h1 : (FloatKind.f64.format.order x y == some .lt) <;> cases h2 : (FloatKind.f64.format.order x y == some .gt)
  all_goals
    go_enter Try.func32, Try.ntmps32
    go_wp2_with fail
    refine (isnan2_calls x hx _).mono ?_
    rintro e w1 ⟨rfl, k1, rfl⟩
    rw [nx]
    go_wp2_with fail
    refine (isnan2_calls y hy _).mono ?_
    rintro e w1 ⟨rfl, k2, rfl⟩
    rw [ny]
    go_wp2_with fail
    go_ret
    exact ⟨rfl, _, rfl⟩
theorem cmp_calls (x y : Int) (hx0 : 0 ≤ x) (hx : x < 2 ^ 64) (hy0 : 0 ≤ y) (hy : y < 2 ^ 64) (w : World) :
    Calls Try.prog 18 #[.int .u64 x, .int .u64 y] w fun e w' => e = .returned (.int .i64 (Fl.cmpW x.toNat y.toNat)) ∧ ∃ k, w' = w.drewN k := by
  have hf : ∀ (b : Nat) (w : World), (callFunc 24 #[.int .u64 (b : Int)]).run Try.prog w = .ok (.value (.float .f64 b)) w := fun b w => frombits_run b w
  obtain ⟨X, rfl⟩ : ∃ X : Nat, x = X := ⟨x.toNat, by omega⟩
  obtain ⟨Y, rfl⟩ : ∃ Y : Nat, y = Y := ⟨y.toNat, by omega⟩
  have kx : X < 2 ^ 64 := by omega
  have ky : Y < 2 ^ 64 := by omega
  rw [Int.toNat_natCast, Int.toNat_natCast]
  clear hx0 hx hy0 hy
  unfold Fl.cmpW
  cases h1 : Fl.nanW X
  · cases h2 : Fl.nanW Y
    · have hcc := compare_calls X Y kx ky h1 h2
      have hC : (if (FloatKind.f64.format.order X Y == some .lt) = true then (-1 : Int) else if (FloatKind.f64.format.order X Y == some .gt) = true then 1 else 0) = if (Ieee.double.order X Y == some .lt) = true then -1 else if (Ieee.double.order X Y == some .gt) = true then 1 else 0 := rfl
      simp only [hC] at hcc
      clear hC
      generalize (if (Ieee.double.order X Y == some .lt) = true then (-1 : Int) else if (Ieee.double.order X Y == some .gt) = true then 1 else 0) = C at *
      cases g1 : Fl.ng X <;> cases g2 : Fl.ng Y
      all_goals
        go_enter Try.func18, Try.ntmps18
        go_wp2_with fail
        refine (isnan_calls X kx _).mono ?_
        rintro e w1 ⟨rfl, q1, rfl⟩
        rw [h1]
        go_wp2_with fail
        refine (isnan_calls X kx _).mono ?_
        rintro e w1 ⟨rfl, q2, rfl⟩
        rw [h1]
        go_wp2_with fail
        refine (isnan_calls Y ky _).mono ?_
        rintro e w1 ⟨rfl, q3, rfl⟩
        rw [h2]
        go_wp2_with fail
        · refine (sign_calls X kx _).mono ?_
          rintro e w1 ⟨rfl, q4, rfl⟩
          rw [g1]
          go_wp2_with fail
          refine (sign_calls Y ky _).mono ?_
          rintro e w1 ⟨rfl, q5, rfl⟩
          rw [g2]
          go_wp2_with fail
          first
            | (refine (hcc _).mono ?_
               rintro e w1 ⟨rfl, q6, rfl⟩
               go_wp2_with fail)
            | (refine (sign_calls X kx _).mono ?_
               rintro e w1 ⟨rfl, q6, rfl⟩
               rw [g1]
               go_wp2_with fail)
          go_ret
          have h' : Ieee.double.order X Y = some .eq := by show FloatKind.f64.format.order X Y = some .eq; assumption
          refine ⟨(congrArg (fun b => Ending.returned (Value.int .i64 b)) ?_), _, rfl⟩
          simp [h']
        · refine (hcc _).mono ?_
          rintro e w1 ⟨rfl, q4, rfl⟩
          go_wp2_with fail
          go_ret
          have h' : ¬ Ieee.double.order X Y = some .eq := by show ¬ FloatKind.f64.format.order X Y = some .eq; assumption
          refine ⟨(congrArg (fun b => Ending.returned (Value.int .i64 b)) ?_), _, rfl⟩
          simp [h']
    · go_enter Try.func18, Try.ntmps18
      go_wp2_with fail
      refine (isnan_calls X kx _).mono ?_
      rintro e w1 ⟨rfl, q1, rfl⟩
      rw [h1]
      go_wp2_with fail
      refine (isnan_calls X kx _).mono ?_
      rintro e w1 ⟨rfl, q2, rfl⟩
      rw [h1]
      go_wp2_with fail
      refine (isnan_calls Y ky _).mono ?_
      rintro e w1 ⟨rfl, q3, rfl⟩
      rw [h2]
      go_wp2_with fail
      go_ret
      exact ⟨rfl, _, rfl⟩
  · cases h2 : Fl.nanW Y
    · go_enter Try.func18, Try.ntmps18
      go_wp2_with fail
      refine (isnan_calls X kx _).mono ?_
      rintro e w1 ⟨rfl, q1, rfl⟩
      rw [h1]
      go_wp2_with fail
      refine (isnan_calls Y ky _).mono ?_
      rintro e w1 ⟨rfl, q2, rfl⟩
      rw [h2]
      go_wp2_with fail
      refine (isnan_calls X kx _).mono ?_
      rintro e w1 ⟨rfl, q3, rfl⟩
      rw [h1]
      go_wp2_with fail
      go_ret
      exact ⟨rfl, _, rfl⟩
    · go_enter Try.func18, Try.ntmps18
      go_wp2_with fail
      refine (isnan_calls X kx _).mono ?_
      rintro e w1 ⟨rfl, q1, rfl⟩
      rw [h1]
      go_wp2_with fail
      refine (isnan_calls Y ky _).mono ?_
      rintro e w1 ⟨rfl, q2, rfl⟩
      rw [h2]
      go_wp2_with fail
      go_ret
      exact ⟨rfl, _, rfl⟩
theorem archfloor_run (x : Nat) (hx : x < 2 ^ 64) (hn : Fl.rg x < Fl.infR) (w : World) : (callFunc 39 #[.float .f64 x]).run Try.prog w = .ok (.value (.float .f64 (Ieee.double.write ((Ieee.double.read x).integral .down)))) w := by
  rw [run_callFunc_extern Try.func39 (by kernel_rfl) (by kernel_rfl) (by kernel_rfl) (e := Extern.MathFloor.toIntegral "math.archFloor" .down) (by kernel_rfl)]
  obtain ⟨m, p, e, _⟩ := Fl.read_num x hx hn
  have e' : FloatKind.f64.decode x = .number (Fl.ng x) m p := e
  rw [e]
  have key : Extern.MathFloor.toIntegral "math.archFloor" .down #[.float .f64 x] = pure (.float .f64 (Ieee.double.write ((Ieee.Datum.number (Fl.ng x) m p).integral .down))) := by
    obtain ⟨A, hA⟩ : ∃ A : Bool → Nat → Sem Value, Extern.MathFloor.toIntegral "math.archFloor" .down #[.float .f64 x] = (match FloatKind.f64.decode x with | .nan s t => A s t | d => pure (.float .f64 (FloatKind.f64.encode (d.integral .down)))) := ⟨_, rfl⟩
    rw [hA, e']
    rfl
  rw [key]
  rfl
theorem floor_calls' (x : Nat) (hx : x < 2 ^ 64) (hn : Fl.rg x < Fl.infR) (w : World) : Calls Try.prog 26 #[.float .f64 x] w fun e w' => e = .returned (.float .f64 (Ieee.double.write ((Ieee.double.read x).integral .down))) ∧ ∃ k, w' = w.drewN k := by
  have hf := archfloor_run x hx hn
  generalize Ieee.double.write ((Ieee.double.read x).integral .down) = y at *
  go_enter Try.func26, Try.ntmps26
  go_wp2_with fail
  go_ret
  exact ⟨rfl, 0, rfl⟩
theorem less_62 (x : Nat) : (FloatKind.f64.format.order (Fl.rg x) 4886405595696988160 == some .lt) = decide (Fl.rg x < 1085 * 2 ^ 52) := by
  have hr : Fl.rg x < 2 ^ 63 := Nat.mod_lt _ (by decide)
  have rr : Fl.rg (Fl.rg x) = Fl.rg x := Nat.mod_eq_of_lt hr
  have rn : Fl.ng (Fl.rg x) = false := by unfold Fl.ng; rw [decide_eq_false_iff_not]; omega
  have cr : Fl.rg 4886405595696988160 = 1085 * 2 ^ 52 := by decide
  have cn : Fl.ng 4886405595696988160 = false := by decide
  by_cases h : Fl.infR < Fl.rg x
  · rw [show FloatKind.f64.format.order (Fl.rg x) 4886405595696988160 = none from Fl.order_nan _ _ (by omega) (by decide) (.inl (by rw [rr]; exact h)), decide_eq_false (by unfold Fl.infR at h; omega)]; rfl
  · rw [show FloatKind.f64.format.order (Fl.rg x) 4886405595696988160 = _ from Fl.order_eq _ _ (by omega) (by decide) (by rw [rr]; omega) (by decide)]
    unfold Fl.sr
    rw [rr, rn, cr, cn]
    simp only [Bool.false_eq_true, if_false]
    rcases Fl.compare_cases (Fl.rg x : Int) ((1085 * 2 ^ 52 : Nat) : Int) with ⟨g, e⟩ | ⟨g, e⟩ | ⟨g, e⟩ <;> rw [e]
    · rw [decide_eq_true (by omega)]; rfl
    · rw [decide_eq_false (by omega)]; rfl
    · rw [decide_eq_false (by omega)]; rfl
theorem floor_calls (x : Int) (hx0 : 0 ≤ x) (hx : x < 2 ^ 64) (w : World) :
    Calls Try.prog 13 #[.int .u64 x] w fun e w' => e = .returned (.tuple #[.int .i64 (Fl.floorI x.toNat).1, .bool (Fl.floorI x.toNat).2]) ∧ ∃ k, w' = w.drewN k := by
  have hf : ∀ (b : Nat) (w : World), (callFunc 24 #[.int .u64 (b : Int)]).run Try.prog w = .ok (.value (.float .f64 b)) w := fun b w => frombits_run b w
  obtain ⟨X, rfl⟩ : ∃ X : Nat, x = X := ⟨x.toNat, by omega⟩
  have kx : X < 2 ^ 64 := by omega
  rw [Int.toNat_natCast]
  clear hx0 hx
  have hu38 := Try.underlying38
  have hu3 := Try.underlying3
  have hl := less_62 X
  by_cases h : Fl.rg X < 1085 * 2 ^ 52
  · have hy := Fl.floor_word X kx h
    have hw := floor_calls' X kx (by unfold Fl.infR; omega)
    rw [decide_eq_true h] at hl
    have e : Fl.floorI X = (if Fl.ng X = true then -(Fl.floorM X : Int) else (Fl.floorM X : Int), true) := by unfold Fl.floorI; rw [if_pos h]
    rw [e]
    generalize Ieee.double.write ((Ieee.double.read X).integral .down) = y at *
    obtain ⟨_, hc, _⟩ := hy
    generalize (if Fl.ng X = true then -(Fl.floorM X : Int) else (Fl.floorM X : Int)) = r at *
    have hcv : ∀ w, (convert 38 3 (.float .f64 y)).run Try.prog w = .ok (.int .i64 r) w := fun w => run_convert_float_int w 38 3 .f64 .i64 y r (by rw [hu38]; rfl) hu3 hc
    go_enter Try.func13, Try.ntmps13
    go_wp2_with fail
    refine (abs_calls X kx _).mono ?_
    rintro e w1 ⟨rfl, k1, rfl⟩
    go_wp2_with fail
    refine (hw _).mono ?_
    rintro e w1 ⟨rfl, k2, rfl⟩
    go_wp2_with fail
    (try simp only [Exit.inBlock, Exit.then])
    refine bodyPost_ret (results_tmp2 rfl _ _ _) rfl ?_
    exact ⟨rfl, _, rfl⟩
  · rw [decide_eq_false h] at hl
    have e : Fl.floorI X = (0, false) := by unfold Fl.floorI; rw [if_neg h]
    rw [e]
    go_enter Try.func13, Try.ntmps13
    go_wp2_with fail
    refine (abs_calls X kx _).mono ?_
    rintro e w1 ⟨rfl, k1, rfl⟩
    go_wp2_with fail
    (try simp only [Exit.inBlock, Exit.then])
    refine bodyPost_ret (results_tmp2 rfl _ _ _) rfl ?_
    exact ⟨rfl, _, rfl⟩
end Go.Proofs.Ytlobedghenflfaa.P
