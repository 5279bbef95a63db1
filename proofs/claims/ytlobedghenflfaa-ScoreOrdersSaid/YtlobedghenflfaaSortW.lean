/- Sorting: a row of words, what compares, and the swap of two ranges. No condition but each theorem's own. -/
import Derived.Test.YtlobedghenflfaaFlWalk
import Derived.Test.YtlobedghenflfaaSortP
import Derived.StillTailTactics
import Derived.IntWalk
import Derived.BigRegion
namespace Go.Proofs.Ytlobedghenflfaa.P
open Go.RowKit Go.Proofs.YtlobedghenflfaaW.PrintWords Go.Proofs.YtlobedghenflfaaW.PrintLast Go.Proofs.YtlobedghenflfaaW.PrintMore Go.Proofs.Ytlobedghenflfaa.S
set_option linter.unusedVariables false
set_option linter.unusedSimpArgs false
/-- how a word is ranked -/
def kz (x : Int) : Int := Fl.keyW x.toNat
def Wd (d : List Int) : Prop := ∀ x ∈ d, 0 ≤ x ∧ x < 2 ^ 64
/-- a row of words that is written -/
structure Row (w : World) (g n cap : Nat) (d : List Int) : Prop where
  R : Kd.R (Kd.int .u64) 22 w 0 (fun _ => True) (.slice (some ⟨g, 0, none⟩) n cap) d
/-- nothing but that block has turned -/
structure Kp (g : Nat) (w w' : World) : Prop where
  os : w'.os = w.os
  tape : w'.tape = w.tape
  output : w'.output = w.output
  size : w'.heap.size = w.heap.size
  block : ∀ i, i ≠ g → w'.heap[i]? = w.heap[i]?
theorem Kp.refl (g : Nat) (w : World) : Kp g w w := ⟨rfl, rfl, rfl, rfl, fun _ _ => rfl⟩
theorem Kp.trans {g : Nat} {a b c : World} (h : Kp g a b) (k : Kp g b c) : Kp g a c := ⟨k.os.trans h.os, k.tape.trans h.tape, k.output.trans h.output, k.size.trans h.size, fun i hi => (k.block i hi).trans (h.block i hi)⟩
theorem Kp.set {g : Nat} {a b : World} (h : Kp g a b) (i : Nat) (v : Value) : Kp g a (b.setCell ⟨g, i, none⟩ v) := ⟨h.os, h.tape, h.output, by simpa using h.size, fun j hj => (Below.heap_setCell b ⟨g, i, none⟩ v j hj).trans (h.block j hj)⟩
theorem Kp.drewN {g : Nat} {a b : World} (h : Kp g a b) (m : Nat) : Kp g a (b.drewN m) := ⟨h.os, h.tape, h.output, h.size, h.block⟩
theorem Kp.drew {g : Nat} {a b : World} (h : Kp g a b) : Kp g a b.drew := ⟨h.os, h.tape, h.output, h.size, h.block⟩
section
variable {w : World} {g n cap : Nat} {d : List Int}
theorem Row.len (h : Row w g n cap d) : n = d.length := (Kd.R_reads' h.R).1
theorem Row.max (h : Row w g n cap d) : n ≤ 9223372036854775807 := (Kd.R_reads' h.R).1 ▸ (Kd.R_reads' h.R).2.2.2.1
theorem Row.at (h : Row w g n cap d) (i : Nat) (hi : i < d.length) : w.cell? ⟨g, i, none⟩ = some (.int .u64 (d.getD i 0)) ∧ w.frozen? ⟨g, i, none⟩ = false := by
  have := Kd.R_celln 0 h.R (i : Int) (by omega) (by rw [h.len]; omega)
  simpa [rdOf] using this
theorem Row.put (h : Row w g n cap d) (i : Nat) (v : Int) : Row (w.setCell ⟨g, i, none⟩ (.int .u64 v)) g n cap (d.set i v) := ⟨by
  have := Kd.R_putn h.R (i : Int) v
  rw [Int.toNat_natCast] at this
  exact this⟩
theorem Row.drewN (h : Row w g n cap d) (m : Nat) : Row (w.drewN m) g n cap d := ⟨Kd.R_drewN h.R m⟩
theorem Row.drew (h : Row w g n cap d) : Row w.drew g n cap d := ⟨Kd.R_drew h.R⟩
end
theorem region_tail {P : Program} {id : Nat} {Q : Exit → Act → World → Prop} {a : Act} {w : World} {l : List Oper} (n : Nat) (hm : P.follows .mixedOrders = true) (hB : Region.lexTailB .any l.toArray n = true)
    (h : wpStill P l.toArray w.drew (fun a' => wpList P l.toArray Q (l.drop n) a' w.drew) (l.take n) a) : (Code.region id l.toArray true).wp P Q a w := wp_region_still_tail n hm hB h
/-- what compares two words -/
def cz (x y : Int) : Int := Fl.cmpI (kz x) (kz y)
theorem cz_lt (x y : Int) : cz x y < 0 ↔ kz x < kz y := by unfold cz Fl.cmpI; split <;> (try split) <;> omega
theorem cl_calls (x y : Int) (hx : 0 ≤ x ∧ x < 2 ^ 64) (hy : 0 ≤ y ∧ y < 2 ^ 64) (w : World) : Calls Try.prog 29 #[.int .u64 x, .int .u64 y] w fun e w' => e = .returned (.int .i64 (cz x y)) ∧ ∃ q, w' = w.drewN q := by
  have e : Fl.cmpW x.toNat y.toNat = cz x y := Fl.cmpW_eq _ _ (by omega) (by omega)
  go_enter Try.func29, Try.ntmps29
  go_wp2_with fail
  refine (cmp_calls x y hx.1 hx.2 hy.1 hy.2 w).mono ?_
  rintro e w1 ⟨rfl, q, rfl⟩
  rw [e]
  go_wp2_with fail
  go_ret
  exact ⟨rfl, q, rfl⟩
/-- two are swapped -/
def swp (d : List Int) (i j : Nat) : List Int := (d.set i (d.getD j 0)).set j (d.getD i 0)
theorem swp_len (d : List Int) (i j : Nat) : (swp d i j).length = d.length := by unfold swp; simp
def swpR (d : List Int) (a b : Nat) : Nat → List Int
  | 0 => d
  | k + 1 => swp (swpR d a b k) (a + k) (b + k)
theorem swpR_len (d : List Int) (a b : Nat) : ∀ k, (swpR d a b k).length = d.length
  | 0 => rfl
  | k + 1 => by unfold swpR; rw [swp_len, swpR_len d a b k]
set_option maxHeartbeats 8000000 in
set_option maxRecDepth 100000 in
theorem swapRange_calls (g n cap : Nat) (d : List Int) (a b k : Nat) (f : Value) (w : World) (h : Row w g n cap d) (ha : a + k ≤ n) (hb : b + k ≤ n) (hab : a ≠ b) :
    Calls Try.prog 53 #[.slice (some ⟨g, 0, none⟩) n cap, .int .i64 a, .int .i64 b, .int .i64 k, f] w fun e w' => e = .returned (.tuple #[]) ∧ Row w' g n cap (swpR d a b k) ∧ Kp g w w' := by
  have hmax := h.max
  have HL := Aside0.mk h.len
  have HR := Aside0.mk h
  clear h
  go_enter Try.func53, Try.ntmps53
  go_wp2_with fail
  go_loopw [10] (fun v10 wr => ∃ i : Nat, i ≤ k ∧ v10 = .int .i64 i ∧ Aside0 (Row wr g n cap (swpR d a b i)) ∧ Aside0 (Kp g w wr)) (fun v10 _ => k - (intOf v10).toNat)
  case atStart => exact ⟨0, by omega, rfl, HR, ⟨Kp.refl g w⟩⟩
  case round =>
    clear HR
    obtain ⟨i, hi, rfl, HRr, HKr⟩ := hrel
    by_cases hlt : i < k
    · obtain ⟨c0, c1⟩ := HRr.out.at (a + i) (by rw [swpR_len]; have := HL.out; omega)
      obtain ⟨c2, c3⟩ := HRr.out.at (b + i) (by rw [swpR_len]; have := HL.out; omega)
      have w1 : IntKind.i64.wrap ((a : Int) + (i : Int)) = ((a + i : Nat) : Int) := by rw [IntWalk.i64_in _ (by omega)]; omega
      have w2 : IntKind.i64.wrap ((b : Int) + (i : Int)) = ((b + i : Nat) : Int) := by rw [IntWalk.i64_in _ (by omega)]; omega
      have l1 : ((a + i : Nat) : Int) < (n : Int) := by omega
      have l2 : ((b + i : Nat) : Int) < (n : Int) := by omega
      obtain ⟨D, hD⟩ : ∃ D, swpR d a b i = D := ⟨_, rfl⟩
      have HD := Aside0.mk hD
      rw [hD] at HRr c0 c2
      clear hD
      obtain ⟨u, hu⟩ : ∃ u, D.getD (a + i) 0 = u := ⟨_, rfl⟩
      obtain ⟨v, hv⟩ : ∃ v, D.getD (b + i) 0 = v := ⟨_, rfl⟩
      rw [hu] at c0
      rw [hv] at c2
      have HU := Aside0.mk hu
      have HV := Aside0.mk hv
      clear hu hv
      obtain ⟨p, hp⟩ : ∃ p, a + i = p := ⟨_, rfl⟩
      obtain ⟨q, hq⟩ : ∃ q, b + i = q := ⟨_, rfl⟩
      rw [hp] at w1 l1 c0 c1 HU
      rw [hq] at w2 l2 c2 c3 HV
      have HP := Aside0.mk hp
      have HQ := Aside0.mk hq
      clear hp hq
      go_wp2_with fail
      have hne : p ≠ q := by have := HP.out; have := HQ.out; omega
      have hne2 : q ≠ p := Ne.symm hne
      have hr2 := (HRr.out.put p v).put q u
      have HR2 := Aside0.mk hr2
      have HK2 := Aside0.mk ((HKr.out.set p (.int .u64 v)).set q (.int .u64 u))
      clear hr2
      have e2 : (wr.setCell ⟨g, p, none⟩ (.int .u64 v)).cell? ⟨g, q, none⟩ = some (.int .u64 v) := by
        have := ((HRr.out.put p v).at q (by rw [List.length_set, ← HD.out, swpR_len, ← HL.out]; omega)).1
        rw [List.getD_eq_getElem?_getD, List.getElem?_set_ne hne, ← List.getD_eq_getElem?_getD, HV.out] at this
        exact this
      have e3 : (wr.setCell ⟨g, p, none⟩ (.int .u64 v)).frozen? ⟨g, q, none⟩ = false := ((HRr.out.put p v).at q (by rw [List.length_set, ← HD.out, swpR_len, ← HL.out]; omega)).2
      go_big_region
      have hs : (D.set p v).set q u = swpR d a b (i + 1) := by
        unfold swpR swp
        rw [HD.out, HP.out, HQ.out, HU.out, HV.out]
      rw [hs] at HR2
      have HR3 := Aside0.mk HR2.out.drew
      have HK3 := Aside0.mk HK2.out.drew
      clear HR2 HK2 hs e2 e3 c0 c1 c2 c3 HRr HKr
      go_wp2_with fail
      go_roundw
      case rel => exact ⟨i + 1, by omega, by go_num, HR3, HK3⟩
      case measure => simp [intOf]; omega
    · have hil : i = k := by omega
      subst hil
      go_wp2_with fail
      exact bodyPost_end (v := .tuple #[]) (by simp [results, Try.results53, go_sem]) rfl ⟨rfl, HRr.out, HKr.out⟩
end Go.Proofs.Ytlobedghenflfaa.P
