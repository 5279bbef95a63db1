/- Sorting: one is put into a part that is in order, from behind. No condition but each theorem's own. -/
import Derived.Test.YtlobedghenflfaaSortM1
namespace Go.Proofs.Ytlobedghenflfaa.P
open Go.RowKit Go.Proofs.YtlobedghenflfaaW.PrintWords Go.Proofs.YtlobedghenflfaaW.PrintLast Go.Proofs.YtlobedghenflfaaW.PrintMore Go.Proofs.Ytlobedghenflfaa.S
set_option linter.unusedVariables false
set_option linter.unusedSimpArgs false
theorem mg_last (y : Int) (X : List Int) (t : Nat) (h1 : ∀ p, p < t → p < X.length → kz (X.getD p 0) ≤ kz y) (h2 : ∀ p, t ≤ p → p < X.length → kz y < kz (X.getD p 0)) : mg kz X [y] = X.take t ++ y :: X.drop t := by
  have g : ∀ x ∈ X.take t, kz x ≤ kz y := fun x hx => by
    obtain ⟨p, hp, e⟩ := List.getElem_of_mem hx
    rw [List.length_take] at hp
    have := h1 p (by omega) (by omega)
    rw [List.getD_eq_getElem?_getD, List.getElem?_eq_getElem (by omega)] at this
    rw [← e, List.getElem_take]
    exact this
  have g2 : ∀ x ∈ X.drop t, kz y < kz x := fun x hx => by
    obtain ⟨p, hp, e⟩ := List.getElem_of_mem hx
    rw [List.length_drop] at hp
    have := h2 (t + p) (by omega) (by omega)
    rw [List.getD_eq_getElem?_getD, List.getElem?_eq_getElem (by omega)] at this
    rw [← e, List.getElem_drop]
    exact this
  have e1 := mg_split kz _ (X.take t) (X.drop t) [y] [] rfl (by simp) (fun a ha z hz => by rw [List.mem_singleton.1 hz]; exact g2 a ha)
  rw [List.append_nil, List.take_append_drop, mg_nil_r] at e1
  have e2 := mg_split kz _ (X.take t) [] [] [y] rfl (fun a ha z hz => by rw [List.mem_singleton.1 hz]; exact g a ha) (by simp)
  rw [List.append_nil, List.nil_append, mg_nil_r, mg_nil_l] at e2
  rw [e1, e2, List.append_assoc]; rfl
theorem set_two' (P : List Int) (x y : Int) (R : List Int) : ((P ++ x :: (y :: R)).set (P.length + 1) x).set P.length y = P ++ y :: (x :: R) := by
  have e : P ++ x :: y :: R = (P ++ [x]) ++ y :: R := by simp
  have e2 : P.length + 1 = (P ++ [x]).length := by simp
  rw [e, e2, set_mid]
  have e3 : (P ++ [x]) ++ x :: R = P ++ x :: (x :: R) := by simp
  rw [e3, set_mid]
set_option maxHeartbeats 8000000 in
set_option maxRecDepth 100000 in
theorem symMerge_last (g n cap : Nat) (A X B : List Int) (y : Int) (a m b : Nat) (w : World) (h : Row w g n cap (A ++ (X ++ y :: B))) (hy : 0 ≤ y ∧ y < 2 ^ 64) (hW : Wd X) (ha : a = A.length) (hm : m = a + X.length) (hb : b = m + 1) (hX : Sd kz X) (hX1 : X.length ≠ 1) (hn : n ≤ 4611686018427387904) :
    Calls Try.prog 47 #[.slice (some ⟨g, 0, none⟩) n cap, .int .i64 a, .int .i64 m, .int .i64 b, fv] w fun e w' => e = .returned (.tuple #[]) ∧ Row w' g n cap (A ++ (mg kz X [y] ++ B)) ∧ Kp g w w' := by
  have HL : Aside0 (n = A.length + X.length + 1 + B.length) := ⟨by have := h.len; simp at this; omega⟩
  have hbn : b ≤ n := by have := HL.out; omega
  have HR := Aside0.mk h
  have HX := Aside0.mk hX
  have HW := Aside0.mk hW
  have HA := Aside0.mk ha
  have HM := Aside0.mk hm
  have HB := Aside0.mk hb
  have w0 : IntKind.i64.wrap ((m : Int) - (a : Int)) = ((X.length : Nat) : Int) := by rw [IntWalk.i64_in _ (by omega)]; omega
  have w00 : (((X.length : Nat) : Int) == 1) = false := by
    cases hq : (((X.length : Nat) : Int) == 1) with
    | false => rfl
    | true => have := eq_of_beq hq; omega
  have w01 : IntKind.i64.wrap ((b : Int) - (m : Int)) = 1 := by rw [IntWalk.i64_in _ (by omega)]; omega
  have ham : a ≤ m := by omega
  clear h hX hW ha hm hb hX1
  unfold fv
  go_enter Try.func47, Try.ntmps47
  go_wp2_with fail
  clear w0 w00 w01
  go_loopw [14, 15] (fun v10 v11 wr => ∃ i j : Nat, a ≤ i ∧ i ≤ j ∧ j ≤ m ∧ v10 = .int .i64 i ∧ v11 = .int .i64 j ∧ Aside0 (∀ p, p < i - a → p < X.length → kz (X.getD p 0) ≤ kz y) ∧ Aside0 (∀ p, j - a ≤ p → p < X.length → kz y < kz (X.getD p 0)) ∧ Aside0 (Row wr g n cap (A ++ (X ++ y :: B))) ∧ Aside0 (Kp g w wr)) (fun v10 v11 _ => (intOf v11).toNat - (intOf v10).toNat)
  case atStart => exact ⟨a, m, Nat.le_refl _, ham, Nat.le_refl _, rfl, rfl, ⟨fun p hp => by omega⟩, ⟨fun p hp h => by have := HM.out; omega⟩, HR, ⟨Kp.refl g w⟩⟩
  case round =>
    clear HR
    obtain ⟨i, j, h1, h2, h3, rfl, rfl, HI, HJ, HRr, HKr⟩ := hrel
    have hmn : (m : Int) < (n : Int) := by have := HB.out; omega
    by_cases hij : i < j
    · have w1 := half_wrap i j (by omega)
      obtain ⟨s, hs⟩ : ∃ s, i + j = s := ⟨_, rfl⟩
      rw [hs] at w1
      obtain ⟨hh, hhe⟩ : ∃ hh, s / 2 = hh := ⟨_, rfl⟩
      have h8 : (s : Int) / 2 = (hh : Int) := by omega
      have b1 : a ≤ hh ∧ hh < j ∧ i ≤ hh := by omega
      have HB1 := Aside0.mk b1
      have hhn : (hh : Int) < (n : Int) := by omega
      clear hs hhe b1
      obtain ⟨u, hu⟩ : ∃ u, X.getD (hh - a) 0 = u := ⟨_, rfl⟩
      have hlen : (A ++ (X ++ y :: B)).length = n := HRr.out.len.symm
      have hul : hh - a < X.length := by have := HB1.out; have := HM.out; omega
      have c1 := (HRr.out.at hh (by rw [hlen]; omega)).1
      have c2 := (HRr.out.at m (by rw [hlen]; omega)).1
      have e1 : (A ++ (X ++ y :: B)).getD hh 0 = u := by
        rw [show hh = A.length + (hh - a) by have := HB1.out; have := HA.out; omega, getD_app, getD_left _ _ _ hul, hu]
      have e2 : (A ++ (X ++ y :: B)).getD m 0 = y := by
        have := getD_mid (A ++ X) y B
        rw [show (A ++ X).length = m by rw [List.length_append]; have := HM.out; have := HA.out; omega, List.append_assoc] at this
        exact this
      rw [e1] at c1
      rw [e2] at c2
      have huw : 0 ≤ u ∧ u < 2 ^ 64 := by
        rw [← hu]
        exact HW.out _ (getD_mem X (hh - a) hul)
      have HU := Aside0.mk hu
      clear hu e1 e2 hlen
      have hS : ∀ w', Below wr.heap.size wr w' → w'.cell? ⟨g, hh, none⟩ = some (.int .u64 u) ∧ w'.cell? ⟨g, m, none⟩ = some (.int .u64 y) := fun w' hb => ⟨pw_cell_below hb c1, pw_cell_below hb c2⟩
      clear c1 c2
      by_cases hc : kz y < kz u
      · have d1 : decide (cz y u < 0) = true := decide_eq_true ((cz_lt y u).2 hc)
        go_wp2_with fail
        go_region_held3 (fun w' => w'.cell? ⟨g, hh, none⟩ = some (.int .u64 u) ∧ w'.cell? ⟨g, m, none⟩ = some (.int .u64 y))
          (first | exact hS _ (below_drew (Below.refl _ _)) | exact hS _ (pw_below_drewN (Below.refl _ _) _))
          (first | (go_at_call 29; refine (cl_calls y u hy huw _).mono ?_; rintro e w2 ⟨rfl, q, rfl⟩))
        rename_i hHeld_
        clear hHeld_ hS
        have HR2 := Aside0.mk (HRr.out.drewN (1 + q))
        have HK2 := Aside0.mk (HKr.out.drewN (1 + q))
        have HJ2 : Aside0 (∀ p, hh - a ≤ p → p < X.length → kz y < kz (X.getD p 0)) := ⟨fun p hp hl => by
          have h1 := sd_get HX.out (hh - a) p hl hp
          rw [HU.out] at h1
          omega⟩
        clear HRr HKr HJ
        generalize wr.drewN (1 + q) = wq at HR2 HK2 ⊢
        go_wp2_with fail
        go_roundw
        case rel => exact ⟨i, hh, h1, by have := HB1.out; omega, by have := HB1.out; omega, rfl, by go_num, HI, HJ2, HR2, HK2⟩
        case measure => have := HB1.out; simp [intOf]; omega
      · have d1 : decide (cz y u < 0) = false := decide_eq_false (fun q => hc ((cz_lt y u).1 q))
        have hw2 : IntKind.i64.wrap ((hh : Int) + 1) = ((hh + 1 : Nat) : Int) := by rw [IntWalk.i64_in _ (by omega)]; omega
        go_wp2_with fail
        go_region_held3 (fun w' => w'.cell? ⟨g, hh, none⟩ = some (.int .u64 u) ∧ w'.cell? ⟨g, m, none⟩ = some (.int .u64 y))
          (first | exact hS _ (below_drew (Below.refl _ _)) | exact hS _ (pw_below_drewN (Below.refl _ _) _))
          (first | (go_at_call 29; refine (cl_calls y u hy huw _).mono ?_; rintro e w2 ⟨rfl, q, rfl⟩))
        rename_i hHeld_
        clear hHeld_ hS
        have HR2 := Aside0.mk (HRr.out.drewN (1 + q))
        have HK2 := Aside0.mk (HKr.out.drewN (1 + q))
        have HI2 : Aside0 (∀ p, p < hh + 1 - a → p < X.length → kz (X.getD p 0) ≤ kz y) := ⟨fun p hp hl => by
          have h1 := sd_get HX.out p (hh - a) hul (by have := HB1.out; omega)
          rw [HU.out] at h1
          omega⟩
        clear HRr HKr HI
        generalize wr.drewN (1 + q) = wq at HR2 HK2 ⊢
        go_wp2_with fail
        go_roundw
        case rel => exact ⟨hh + 1, j, by have := HB1.out; omega, by have := HB1.out; omega, h3, by go_num, rfl, HI2, HJ, HR2, HK2⟩
        case measure => have := HB1.out; simp [intOf]; omega
    · have hij2 : i = j := by omega
      subst hij2
      obtain ⟨t, ht⟩ : ∃ t, i - a = t := ⟨_, rfl⟩
      rw [ht] at HI HJ
      have hmg : mg kz X [y] = X.take t ++ y :: X.drop t := mg_last y X t HI.out (fun p h1 h2 => HJ.out p h1 h2)
      have htX : t ≤ X.length := by have := HM.out; omega
      have HMG := Aside0.mk hmg
      have HT := Aside0.mk ht
      clear ht hmg HI HJ
      have H0 : Aside0 (Row wr g n cap (A ++ (X.take (m - a) ++ y :: (X.drop (m - a) ++ B)))) := ⟨by
        have := HRr.out
        have e : m - a = X.length := by have := HM.out; omega
        rw [e, List.take_length, List.drop_length]
        exact this⟩
      clear HRr
      go_wp2_with fail
      go_loopw [17] (fun v13 w2 => ∃ k : Nat, i ≤ k ∧ k ≤ m ∧ v13 = .int .i64 k ∧ Aside0 (Row w2 g n cap (A ++ (X.take (k - a) ++ y :: (X.drop (k - a) ++ B)))) ∧ Aside0 (Kp g w w2)) (fun v13 _ => (intOf v13).toNat - i)
      case atStart => exact ⟨m, h3, Nat.le_refl _, rfl, H0, HKr⟩
      case round =>
        clear H0 HKr
        obtain ⟨k, k1, k2, rfl, HRk, HKk⟩ := hrel
        by_cases hke : i < k
        · obtain ⟨q, rfl⟩ : ∃ q, k = q + 1 := ⟨k - 1, by omega⟩
          have w3 : IntKind.i64.wrap (((q + 1 : Nat) : Int) - 1) = (q : Int) := by rw [IntWalk.i64_in _ (by omega)]; omega
          obtain ⟨x, hx⟩ : ∃ x, X.getD (q - a) 0 = x := ⟨_, rfl⟩
          have hqX : q - a < X.length := by have := HM.out; omega
          have hdrop : X.drop (q - a) = x :: X.drop (q + 1 - a) := by
            rw [List.drop_eq_getElem_cons hqX, ← hx, List.getD_eq_getElem?_getD, List.getElem?_eq_getElem hqX, show q + 1 - a = q - a + 1 by omega]; rfl
          have htake : X.take (q + 1 - a) = X.take (q - a) ++ [x] := by
            rw [show q + 1 - a = q - a + 1 by omega, List.take_succ_eq_append_getElem hqX, ← hx, List.getD_eq_getElem?_getD, List.getElem?_eq_getElem hqX]; rfl
          have hPl : (A ++ X.take (q - a)).length = q := by rw [List.length_append, List.length_take]; have := HA.out; omega
          have hD : A ++ (X.take (q + 1 - a) ++ y :: (X.drop (q + 1 - a) ++ B)) = (A ++ X.take (q - a)) ++ x :: (y :: (X.drop (q + 1 - a) ++ B)) := by rw [htake, List.append_assoc A, List.append_assoc (X.take (q - a))]; rfl
          have hlen : (A ++ (X.take (q + 1 - a) ++ y :: (X.drop (q + 1 - a) ++ B))).length = n := HRk.out.len.symm
          obtain ⟨c0, c1⟩ := HRk.out.at (q + 1) (by rw [hlen]; omega)
          obtain ⟨c2, c3⟩ := HRk.out.at q (by rw [hlen]; omega)
          have hr2 := (HRk.out.put (q + 1) x).put q y
          obtain ⟨c4, c5⟩ := (HRk.out.put (q + 1) x).at q (by rw [List.length_set, hlen]; omega)
          have hset : ((A ++ (X.take (q + 1 - a) ++ y :: (X.drop (q + 1 - a) ++ B))).set (q + 1) x).set q y = A ++ (X.take (q - a) ++ y :: (X.drop (q - a) ++ B)) := by
            rw [hD]
            have := set_two' (A ++ X.take (q - a)) x y (X.drop (q + 1 - a) ++ B)
            rw [hPl] at this
            rw [this, hdrop, List.append_assoc]; rfl
          have g0 : (A ++ (X.take (q + 1 - a) ++ y :: (X.drop (q + 1 - a) ++ B))).getD q 0 = x := by
            rw [hD]
            have := getD_mid (A ++ X.take (q - a)) x (y :: (X.drop (q + 1 - a) ++ B))
            rw [hPl] at this
            exact this
          have g1 : (A ++ (X.take (q + 1 - a) ++ y :: (X.drop (q + 1 - a) ++ B))).getD (q + 1) 0 = y := by
            rw [hD]
            have := getD_mid (A ++ X.take (q - a) ++ [x]) y (X.drop (q + 1 - a) ++ B)
            rw [show (A ++ X.take (q - a) ++ [x]).length = q + 1 by rw [List.length_append, hPl]; rfl] at this
            have e : A ++ X.take (q - a) ++ x :: (y :: (X.drop (q + 1 - a) ++ B)) = (A ++ X.take (q - a) ++ [x]) ++ y :: (X.drop (q + 1 - a) ++ B) := by rw [List.append_assoc (A ++ X.take (q - a)) [x]]; rfl
            rw [e]
            exact this
          have g2 : ((A ++ (X.take (q + 1 - a) ++ y :: (X.drop (q + 1 - a) ++ B))).set (q + 1) x).getD q 0 = x := by
            rw [List.getD_eq_getElem?_getD, List.getElem?_set_ne (by omega), ← List.getD_eq_getElem?_getD, g0]
          rw [g1] at c0
          rw [g0] at c2
          rw [g2] at c4
          rw [hset] at hr2
          have HR2 := Aside0.mk hr2.drew
          have HK2 := Aside0.mk (((HKk.out.set (q + 1) (.int .u64 x)).set q (.int .u64 y)).drew)
          have hkn : ((q + 1 : Nat) : Int) < (n : Int) := by omega
          have hkn2 : (q : Int) < (n : Int) := by omega
          have hne : q + 1 ≠ q := by omega
          obtain ⟨k, hq⟩ : ∃ k, q + 1 = k := ⟨_, rfl⟩
          rw [hq] at w3 c0 c1 c4 c5 hkn hne HK2 HR2
          rw [hq]
          have hne2 : q ≠ k := Ne.symm hne
          have HQ := Aside0.mk hq
          have hke2 : (k : Int) > (i : Int) := by omega
          clear hq hr2 hset g0 g1 g2 hD hlen hPl htake hdrop hx HRk HKk
          go_wp2_with fail
          go_big_region
          clear c0 c1 c2 c3 c4 c5
          go_wp2_with fail
          go_roundw
          case rel => exact ⟨q, by have := HQ.out; omega, by have := HQ.out; omega, by have := HQ.out; go_num, HR2, HK2⟩
          case measure => have := HQ.out; simp [intOf]; omega
        · have hke2 : k = i := by omega
          subst hke2
          have hT : A ++ (X.take (k - a) ++ y :: (X.drop (k - a) ++ B)) = A ++ (mg kz X [y] ++ B) := by
            rw [HMG.out, HT.out, List.append_assoc]; rfl
          rw [hT] at HRk
          clear hT
          go_wp2_with fail
          exact bodyPost_ret (v := .tuple #[]) (by simp [results, Try.results47, go_sem]) rfl ⟨rfl, HRk.out, HKk.out⟩
end Go.Proofs.Ytlobedghenflfaa.P
