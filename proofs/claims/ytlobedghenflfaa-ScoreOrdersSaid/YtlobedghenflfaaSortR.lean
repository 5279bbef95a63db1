/- Sorting: two ranges that lie side by side change places. No condition but each theorem's own. -/
import Derived.Test.YtlobedghenflfaaSortW
namespace Go.Proofs.Ytlobedghenflfaa.P
open Go.RowKit Go.Proofs.YtlobedghenflfaaW.PrintWords Go.Proofs.YtlobedghenflfaaW.PrintLast Go.Proofs.YtlobedghenflfaaW.PrintMore Go.Proofs.Ytlobedghenflfaa.S
set_option linter.unusedVariables false
set_option linter.unusedSimpArgs false
theorem getD_mid (P : List Int) (u : Int) (R : List Int) : (P ++ u :: R).getD P.length 0 = u := by
  rw [List.getD_eq_getElem?_getD, List.getElem?_append_right (Nat.le_refl _), Nat.sub_self]; rfl
theorem set_mid (P : List Int) (u v : Int) (R : List Int) : (P ++ u :: R).set P.length v = P ++ v :: R := by
  rw [List.set_append, if_neg (Nat.lt_irrefl _), Nat.sub_self]; rfl
theorem swp_app (P Q R : List Int) (u v : Int) : swp (P ++ u :: (Q ++ v :: R)) P.length (P.length + 1 + Q.length) = P ++ v :: (Q ++ u :: R) := by
  have e : ∀ x : Int, P ++ x :: (Q ++ v :: R) = (P ++ x :: Q) ++ v :: R := fun x => by simp
  have e2 : ∀ x : Int, (P ++ x :: Q).length = P.length + 1 + Q.length := fun x => by simp; omega
  unfold swp
  rw [getD_mid, e u, ← e2 u, getD_mid, ← e u, set_mid, e v, e2 u, ← e2 v, set_mid]
  simp
theorem swpR_app : ∀ (k : Nat) (A X M Y B : List Int), X.length = k → Y.length = k → swpR (A ++ (X ++ (M ++ (Y ++ B)))) A.length (A.length + X.length + M.length) k = A ++ (Y ++ (M ++ (X ++ B)))
  | 0, A, X, M, Y, B, hX, hY => by
    have e1 : X = [] := List.length_eq_zero_iff.1 hX
    have e2 : Y = [] := List.length_eq_zero_iff.1 hY
    subst e1; subst e2; rfl
  | k + 1, A, X, M, Y, B, hX, hY => by
    obtain ⟨X', x, rfl⟩ : ∃ X' x, X = X' ++ [x] := ⟨X.dropLast, X.getLast (by intro e; rw [e] at hX; cases hX), (List.dropLast_concat_getLast _).symm⟩
    obtain ⟨Y', y, rfl⟩ : ∃ Y' y, Y = Y' ++ [y] := ⟨Y.dropLast, Y.getLast (by intro e; rw [e] at hY; cases hY), (List.dropLast_concat_getLast _).symm⟩
    have hX' : X'.length = k := by simpa using hX
    have hY' : Y'.length = k := by simpa using hY
    unfold swpR
    have h := swpR_app k A X' (x :: M) Y' (y :: B) hX' hY'
    have e1 : A ++ (X' ++ [x] ++ (M ++ (Y' ++ [y] ++ B))) = A ++ (X' ++ (x :: M ++ (Y' ++ y :: B))) := by simp
    have e2 : A.length + (X' ++ [x]).length + M.length = A.length + X'.length + (x :: M).length := by simp; omega
    rw [e1, e2, h]
    have h2 := swp_app (A ++ Y') (M ++ X') B x y
    have e3 : A ++ (Y' ++ (x :: M ++ (X' ++ y :: B))) = (A ++ Y') ++ x :: ((M ++ X') ++ y :: B) := by simp
    have e4 : A.length + k = (A ++ Y').length := by simp; omega
    have e5 : A.length + X'.length + (x :: M).length + k = (A ++ Y').length + 1 + (M ++ X').length := by simp; omega
    rw [e3, e4, e5, h2]
    simp
set_option maxHeartbeats 8000000 in
set_option maxRecDepth 100000 in
theorem rotate_calls (g n cap : Nat) (A X Y B : List Int) (a m b : Nat) (f : Value) (w : World) (h : Row w g n cap (A ++ (X ++ (Y ++ B)))) (ha : a = A.length) (hm : m = a + X.length) (hb : b = m + Y.length) (hX : 0 < X.length) (hY : 0 < Y.length) :
    Calls Try.prog 50 #[.slice (some ⟨g, 0, none⟩) n cap, .int .i64 a, .int .i64 m, .int .i64 b, f] w fun e w' => e = .returned (.tuple #[]) ∧ Row w' g n cap (A ++ (Y ++ (X ++ B))) ∧ Kp g w w' := by
  have hmax := h.max
  have hn : b ≤ n := by have := h.len; simp at this; omega
  have HR := Aside0.mk h
  clear h
  obtain ⟨T, hT⟩ : ∃ T, A ++ (Y ++ (X ++ B)) = T := ⟨_, rfl⟩
  rw [hT]
  obtain ⟨D, hD⟩ : ∃ D, A ++ (X ++ (Y ++ B)) = D := ⟨_, rfl⟩
  rw [hD] at HR
  have H0 : Aside0 (∃ A X Y B : List Int, D = A ++ (X ++ (Y ++ B)) ∧ T = A ++ (Y ++ (X ++ B)) ∧ A.length + (m - a) = m ∧ X.length = m - a ∧ Y.length = b - m) := ⟨A, X, Y, B, hD.symm, hT.symm, by omega, by omega, by omega⟩
  have h1 : a < m := by omega
  have h2 : m < b := by omega
  clear hT hD ha hm hb hX hY
  have w1 : IntKind.i64.wrap ((m : Int) - (a : Int)) = ((m - a : Nat) : Int) := by rw [IntWalk.i64_in _ (by omega)]; omega
  have w2 : IntKind.i64.wrap ((b : Int) - (m : Int)) = ((b - m : Nat) : Int) := by rw [IntWalk.i64_in _ (by omega)]; omega
  obtain ⟨i0, hi0⟩ : ∃ i0, m - a = i0 := ⟨_, rfl⟩
  obtain ⟨j0, hj0⟩ : ∃ j0, b - m = j0 := ⟨_, rfl⟩
  rw [hi0] at w1 H0
  rw [hj0] at w2 H0
  have p1 : 0 < i0 := by omega
  have p2 : 0 < j0 := by omega
  have p3 : i0 ≤ m := by omega
  have p4 : m + j0 ≤ n := by omega
  clear hi0 hj0
  go_enter Try.func50, Try.ntmps50
  go_wp2_with fail
  go_loopw [10, 11] (fun v10 v11 wr => ∃ (i j : Nat) (D : List Int), 0 < i ∧ 0 < j ∧ i ≤ m ∧ m + j ≤ n ∧ v10 = .int .i64 i ∧ v11 = .int .i64 j ∧ Aside0 (Row wr g n cap D) ∧ Aside0 (Kp g w wr) ∧ Aside0 (∃ A X Y B : List Int, D = A ++ (X ++ (Y ++ B)) ∧ T = A ++ (Y ++ (X ++ B)) ∧ A.length + i = m ∧ X.length = i ∧ Y.length = j)) (fun v10 v11 _ => (intOf v10).toNat + (intOf v11).toNat)
  case atStart => exact ⟨i0, j0, D, p1, p2, p3, p4, rfl, rfl, HR, ⟨Kp.refl g w⟩, H0⟩
  case round =>
    clear HR H0 w1 w2 p1 p2 p3 p4
    obtain ⟨i, j, D, p1, p2, p3, p4, rfl, rfl, HRr, HKr, HD⟩ := hrel
    have w1 : IntKind.i64.wrap ((m : Int) - (i : Int)) = ((m - i : Nat) : Int) := by rw [IntWalk.i64_in _ (by omega)]; omega
    rcases Nat.lt_trichotomy i j with hij | hij | hij
    · have t1 : ((i : Int) == (j : Int)) = false := by simp; omega
      have t2 : decide ((i : Int) > (j : Int)) = false := decide_eq_false (by omega)
      have w2 : IntKind.i64.wrap ((m : Int) + (j : Int)) = ((m + j : Nat) : Int) := by rw [IntWalk.i64_in _ (by omega)]; omega
      have w3 : IntKind.i64.wrap (((m + j : Nat) : Int) - (i : Int)) = ((m + j - i : Nat) : Int) := by rw [IntWalk.i64_in _ (by omega)]; omega
      have w4 : IntKind.i64.wrap ((j : Int) - (i : Int)) = ((j - i : Nat) : Int) := by rw [IntWalk.i64_in _ (by omega)]; omega
      obtain ⟨c1, hc1⟩ : ∃ c1, m - i = c1 := ⟨_, rfl⟩
      obtain ⟨c2, hc2⟩ : ∃ c2, m + j = c2 := ⟨_, rfl⟩
      obtain ⟨c3, hc3⟩ : ∃ c3, m + j - i = c3 := ⟨_, rfl⟩
      obtain ⟨c4, hc4⟩ : ∃ c4, j - i = c4 := ⟨_, rfl⟩
      rw [hc1] at w1
      rw [hc2] at w2
      rw [hc3, hc2] at w3
      rw [hc4] at w4
      have C1 := Aside0.mk hc1
      have C3 := Aside0.mk hc3
      have C4 := Aside0.mk hc4
      clear hc1 hc2 hc3 hc4
      go_wp2_with fail
      refine (swapRange_calls g n cap D c1 c3 i f wr HRr.out (by have := C1.out; omega) (by have := C3.out; omega) (by have := C1.out; have := C3.out; omega)).mono ?_
      rintro e w5 ⟨rfl, hR5, hK5⟩
      have HR5 := Aside0.mk hR5
      have HK5 := Aside0.mk (HKr.out.trans hK5)
      have HD5 : Aside0 (∃ A X Y B : List Int, swpR D c1 c3 i = A ++ (X ++ (Y ++ B)) ∧ T = A ++ (Y ++ (X ++ B)) ∧ A.length + i = m ∧ X.length = i ∧ Y.length = c4) := ⟨by
        obtain ⟨A, X, Y, B, e1, e2, e3, e4, e5⟩ := HD.out
        have q1 := C1.out
        have q3 := C3.out
        have q4 := C4.out
        have eY : Y = Y.take c4 ++ Y.drop c4 := (List.take_append_drop c4 Y).symm
        refine ⟨A, Y.drop c4, Y.take c4, X ++ B, ?_, ?_, e3, by rw [List.length_drop]; omega, by rw [List.length_take]; omega⟩
        · have h := swpR_app i A X (Y.take c4) (Y.drop c4) B e4 (by rw [List.length_drop]; omega)
          rw [show A.length = c1 by omega, show c1 + X.length + (Y.take c4).length = c3 by rw [List.length_take]; omega] at h
          rw [← h, e1]
          conv => lhs; rw [eY]
          rw [List.append_assoc]
        · rw [e2, ← List.append_assoc (Y.take c4), List.take_append_drop]⟩
      have p5 : 0 < c4 := by have := C4.out; omega
      have p6 : m + c4 ≤ n := by have := C4.out; omega
      have p7 : c4 < j := by have := C4.out; omega
      clear hR5 hK5 HRr HKr HD
      go_wp2_with fail
      go_roundw
      case rel => exact ⟨i, c4, _, p1, p5, p3, p6, rfl, by go_num, HR5, HK5, HD5⟩
      case measure => simp [intOf]; omega
    · subst hij
      have t1 : ((i : Int) == (i : Int)) = true := by simp
      obtain ⟨c1, hc1⟩ : ∃ c1, m - i = c1 := ⟨_, rfl⟩
      rw [hc1] at w1
      have C1 := Aside0.mk hc1
      clear hc1
      go_wp2_with fail
      refine (swapRange_calls g n cap D c1 m i f wr HRr.out (by have := C1.out; omega) p4 (by have := C1.out; omega)).mono ?_
      rintro e w5 ⟨rfl, hR5, hK5⟩
      have hT : swpR D c1 m i = T := by
        obtain ⟨A, X, Y, B, e1, e2, e3, e4, e5⟩ := HD.out
        have q1 := C1.out
        have h := swpR_app i A X [] Y B e4 e5
        rw [show A.length = c1 by omega, show c1 + X.length + ([] : List Int).length = m by simp; omega] at h
        rw [e1, e2]
        simpa using h
      rw [hT] at hR5
      have HR5 := Aside0.mk hR5
      have HK5 := Aside0.mk (HKr.out.trans hK5)
      clear hR5 hK5 HRr HKr HD hT
      go_wp2_with fail
      exact bodyPost_end (v := .tuple #[]) (by simp [results, Try.results50, go_sem]) rfl ⟨rfl, HR5.out, HK5.out⟩
    · have t1 : ((i : Int) == (j : Int)) = false := by simp; omega
      have t2 : decide ((i : Int) > (j : Int)) = true := decide_eq_true (by omega)
      have w4 : IntKind.i64.wrap ((i : Int) - (j : Int)) = ((i - j : Nat) : Int) := by rw [IntWalk.i64_in _ (by omega)]; omega
      obtain ⟨c1, hc1⟩ : ∃ c1, m - i = c1 := ⟨_, rfl⟩
      obtain ⟨c4, hc4⟩ : ∃ c4, i - j = c4 := ⟨_, rfl⟩
      rw [hc1] at w1
      rw [hc4] at w4
      have C1 := Aside0.mk hc1
      have C4 := Aside0.mk hc4
      clear hc1 hc4
      go_wp2_with fail
      refine (swapRange_calls g n cap D c1 m j f wr HRr.out (by have := C1.out; omega) p4 (by have := C1.out; omega)).mono ?_
      rintro e w5 ⟨rfl, hR5, hK5⟩
      have HR5 := Aside0.mk hR5
      have HK5 := Aside0.mk (HKr.out.trans hK5)
      have HD5 : Aside0 (∃ A X Y B : List Int, swpR D c1 m j = A ++ (X ++ (Y ++ B)) ∧ T = A ++ (Y ++ (X ++ B)) ∧ A.length + c4 = m ∧ X.length = c4 ∧ Y.length = j) := ⟨by
        obtain ⟨A, X, Y, B, e1, e2, e3, e4, e5⟩ := HD.out
        have q1 := C1.out
        have q4 := C4.out
        have eX : X = X.take j ++ X.drop j := (List.take_append_drop j X).symm
        refine ⟨A ++ Y, X.drop j, X.take j, B, ?_, ?_, by rw [List.length_append]; omega, by rw [List.length_drop]; omega, by rw [List.length_take]; omega⟩
        · have h := swpR_app j A (X.take j) (X.drop j) Y B (by rw [List.length_take]; omega) e5
          rw [show A.length = c1 by omega, show c1 + (X.take j).length + (X.drop j).length = m by rw [List.length_take, List.length_drop]; omega] at h
          rw [List.append_assoc, ← h, e1]
          conv => lhs; rw [eX]
          rw [List.append_assoc]
        · rw [e2, List.append_assoc A Y, ← List.append_assoc (X.take j), List.take_append_drop]⟩
      have p5 : 0 < c4 := by have := C4.out; omega
      have p6 : c4 ≤ m := by have := C4.out; omega
      have p7 : c4 < i := by have := C4.out; omega
      clear hR5 hK5 HRr HKr HD
      go_wp2_with fail
      go_roundw
      case rel => exact ⟨c4, j, _, p5, p2, p6, p4, by go_num, rfl, HR5, HK5, HD5⟩
      case measure => simp [intOf]; omega
end Go.Proofs.Ytlobedghenflfaa.P
