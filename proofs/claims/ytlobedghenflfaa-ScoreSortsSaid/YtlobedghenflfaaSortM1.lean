/- Sorting: one is put into a part that is in order. No condition but each theorem's own. -/
import Derived.Test.YtlobedghenflfaaSortR
namespace Go.Proofs.Ytlobedghenflfaa.P
open Go.RowKit Go.Proofs.YtlobedghenflfaaW.PrintWords Go.Proofs.YtlobedghenflfaaW.PrintLast Go.Proofs.YtlobedghenflfaaW.PrintMore Go.Proofs.Ytlobedghenflfaa.S
set_option linter.unusedVariables false
set_option linter.unusedSimpArgs false
/-- what compares, as a value -/
def fv : Value := .func (.func 29) #[] #[]
theorem getD_app (P Q : List Int) (i : Nat) : (P ++ Q).getD (P.length + i) 0 = Q.getD i 0 := by
  rw [List.getD_eq_getElem?_getD, List.getElem?_append_right (by omega), List.getD_eq_getElem?_getD]
  congr 2; omega
theorem getD_left (P Q : List Int) (i : Nat) (h : i < P.length) : (P ++ Q).getD i 0 = P.getD i 0 := by
  rw [List.getD_eq_getElem?_getD, List.getElem?_append_left h, List.getD_eq_getElem?_getD]
theorem getD_mem (l : List Int) (i : Nat) (h : i < l.length) : l.getD i 0 ∈ l := by
  rw [List.getD_eq_getElem?_getD, List.getElem?_eq_getElem h]; exact List.getElem_mem h
theorem sd_get {l : List Int} (h : Sd kz l) (p q : Nat) (hq : q < l.length) (hpq : p ≤ q) : kz (l.getD p 0) ≤ kz (l.getD q 0) := by
  rcases Nat.lt_or_eq_of_le hpq with h1 | rfl
  · have := List.pairwise_iff_getElem.1 h p q (by omega) hq h1
    rw [List.getD_eq_getElem?_getD, List.getD_eq_getElem?_getD, List.getElem?_eq_getElem hq, List.getElem?_eq_getElem (show p < l.length by omega)]
    exact this
  · exact Int.le_refl _
theorem half_wrap (i j : Nat) (h : i + j ≤ 9223372036854775807) : IntKind.i64.wrap ((i : Int) + (j : Int)) = ((i + j : Nat) : Int) := by rw [IntWalk.i64_in _ (by omega)]; omega
theorem mg_one (x : Int) (Y : List Int) (t : Nat) (h1 : ∀ p, p < t → kz (Y.getD p 0) < kz x) (h2 : ∀ p, t ≤ p → p < Y.length → kz x ≤ kz (Y.getD p 0)) : mg kz [x] Y = Y.take t ++ x :: Y.drop t := by
  have g : ∀ y ∈ Y.take t, kz y < kz x := fun y hy => by
    obtain ⟨p, hp, e⟩ := List.getElem_of_mem hy
    rw [List.length_take] at hp
    have := h1 p (by omega)
    rw [List.getD_eq_getElem?_getD, List.getElem?_eq_getElem (by omega)] at this
    rw [← e, List.getElem_take]
    exact this
  have g2 : ∀ y ∈ Y.drop t, kz x ≤ kz y := fun y hy => by
    obtain ⟨p, hp, e⟩ := List.getElem_of_mem hy
    rw [List.length_drop] at hp
    have := h2 (t + p) (by omega) (by omega)
    rw [List.getD_eq_getElem?_getD, List.getElem?_eq_getElem (by omega)] at this
    rw [← e, List.getElem_drop]
    exact this
  have e1 := mg_split kz _ [] [x] (Y.take t) (Y.drop t) rfl (by simp) (fun a ha y hy => by rw [List.mem_singleton.1 ha]; exact g y hy)
  rw [List.nil_append, List.take_append_drop, mg_nil_l] at e1
  have e2 := mg_split kz _ [x] [] [] (Y.drop t) rfl (fun a ha y hy => by rw [List.mem_singleton.1 ha]; exact g2 y hy) (by simp)
  rw [List.append_nil, List.nil_append, mg_nil_r, mg_nil_l] at e2
  rw [e1, e2]; rfl
theorem set_two (P : List Int) (x y : Int) (R : List Int) : ((P ++ x :: (y :: R)).set P.length y).set (P.length + 1) x = (P ++ [y]) ++ x :: R := by
  rw [set_mid]
  have e : P ++ y :: y :: R = (P ++ [y]) ++ y :: R := by simp
  have e2 : P.length + 1 = (P ++ [y]).length := by simp
  rw [e, e2, set_mid]
set_option maxHeartbeats 8000000 in
set_option maxRecDepth 100000 in
theorem symMerge_one (g n cap : Nat) (A Y B : List Int) (x : Int) (a m b : Nat) (w : World) (h : Row w g n cap (A ++ x :: (Y ++ B))) (hx : 0 ≤ x ∧ x < 2 ^ 64) (hW : Wd Y) (ha : a = A.length) (hm : m = a + 1) (hb : b = m + Y.length) (hY : Sd kz Y) (hn : n ≤ 4611686018427387904) :
    Calls Try.prog 47 #[.slice (some ⟨g, 0, none⟩) n cap, .int .i64 a, .int .i64 m, .int .i64 b, fv] w fun e w' => e = .returned (.tuple #[]) ∧ Row w' g n cap (A ++ (mg kz [x] Y ++ B)) ∧ Kp g w w' := by
  have HL : Aside0 (n = A.length + 1 + Y.length + B.length) := ⟨by have := h.len; simp at this; omega⟩
  have hbn : b ≤ n := by have := HL.out; omega
  have HR := Aside0.mk h
  have HY := Aside0.mk hY
  have HW := Aside0.mk hW
  have HA := Aside0.mk ha
  have HM := Aside0.mk hm
  have HB := Aside0.mk hb
  clear h hY hW ha
  have w0 : IntKind.i64.wrap ((m : Int) - (a : Int)) = 1 := by rw [IntWalk.i64_in _ (by omega)]; omega
  have hmb : m ≤ b := by omega
  clear hm hb
  unfold fv
  go_enter Try.func47, Try.ntmps47
  go_wp2_with fail
  go_loopw [10, 11] (fun v10 v11 wr => ∃ i j : Nat, m ≤ i ∧ i ≤ j ∧ j ≤ b ∧ v10 = .int .i64 i ∧ v11 = .int .i64 j ∧ Aside0 (∀ p, p < i - m → kz (Y.getD p 0) < kz x) ∧ Aside0 (∀ p, j - m ≤ p → p < Y.length → kz x ≤ kz (Y.getD p 0)) ∧ Aside0 (Row wr g n cap (A ++ x :: (Y ++ B))) ∧ Aside0 (Kp g w wr)) (fun v10 v11 _ => (intOf v11).toNat - (intOf v10).toNat)
  case atStart => exact ⟨m, b, Nat.le_refl _, hmb, Nat.le_refl _, rfl, rfl, ⟨fun p hp => by omega⟩, ⟨fun p hp h => by have := HB.out; omega⟩, HR, ⟨Kp.refl g w⟩⟩
  case round =>
    clear HR
    obtain ⟨i, j, h1, h2, h3, rfl, rfl, HI, HJ, HRr, HKr⟩ := hrel
    by_cases hij : i < j
    · have w1 := half_wrap i j (by omega)
      obtain ⟨s, hs⟩ : ∃ s, i + j = s := ⟨_, rfl⟩
      rw [hs] at w1
      obtain ⟨hh, hhe⟩ : ∃ hh, s / 2 = hh := ⟨_, rfl⟩
      have h8 : (s : Int) / 2 = (hh : Int) := by omega
      have b1 : m ≤ hh ∧ hh < j ∧ i ≤ hh := by omega
      have HB1 := Aside0.mk b1
      have hhn : (hh : Int) < (n : Int) := by omega
      have han : (a : Int) < (n : Int) := by have := HM.out; omega
      have HS := Aside0.mk hs
      clear hs hhe b1
      obtain ⟨u, hu⟩ : ∃ u, Y.getD (hh - m) 0 = u := ⟨_, rfl⟩
      have hlen : (A ++ x :: (Y ++ B)).length = n := HRr.out.len.symm
      have hul : hh - m < Y.length := by have := HB1.out; have := HB.out; omega
      have c1 := (HRr.out.at hh (by rw [hlen]; omega)).1
      have c2 := (HRr.out.at a (by rw [hlen]; omega)).1
      have e1 : (A ++ x :: (Y ++ B)).getD hh 0 = u := by
        rw [show A ++ x :: (Y ++ B) = (A ++ [x]) ++ (Y ++ B) by simp, show hh = (A ++ [x]).length + (hh - m) by have := HB1.out; have := HM.out; have := HA.out; simp; omega, getD_app, getD_left _ _ _ hul, hu]
      have e2 : (A ++ x :: (Y ++ B)).getD a 0 = x := by rw [HA.out]; exact getD_mid A x _
      rw [e1] at c1
      rw [e2] at c2
      have huw : 0 ≤ u ∧ u < 2 ^ 64 := by
        rw [← hu]
        exact HW.out _ (getD_mem Y (hh - m) hul)
      have HU := Aside0.mk hu
      clear hu e1 e2 hlen
      have hS : ∀ w', Below wr.heap.size wr w' → w'.cell? ⟨g, hh, none⟩ = some (.int .u64 u) ∧ w'.cell? ⟨g, a, none⟩ = some (.int .u64 x) := fun w' hb => ⟨pw_cell_below hb c1, pw_cell_below hb c2⟩
      clear c1 c2
      by_cases hc : kz u < kz x
      · have d1 : decide (cz u x < 0) = true := decide_eq_true ((cz_lt u x).2 hc)
        have hw2 : IntKind.i64.wrap ((hh : Int) + 1) = ((hh + 1 : Nat) : Int) := by rw [IntWalk.i64_in _ (by omega)]; omega
        go_wp2_with fail
        go_region_held3 (fun w' => w'.cell? ⟨g, hh, none⟩ = some (.int .u64 u) ∧ w'.cell? ⟨g, a, none⟩ = some (.int .u64 x))
          (first | exact hS _ (below_drew (Below.refl _ _)) | exact hS _ (pw_below_drewN (Below.refl _ _) _))
          (first | (go_at_call 29; refine (cl_calls u x huw hx _).mono ?_; rintro e w2 ⟨rfl, q, rfl⟩))
        rename_i hHeld_
        clear hHeld_ hS
        have HR2 := Aside0.mk (HRr.out.drewN (1 + q))
        have HK2 := Aside0.mk (HKr.out.drewN (1 + q))
        have HI2 : Aside0 (∀ p, p < hh + 1 - m → kz (Y.getD p 0) < kz x) := ⟨fun p hp => by
          have h1 := sd_get HY.out p (hh - m) hul (by have := HB1.out; omega)
          rw [HU.out] at h1
          omega⟩
        clear HRr HKr HI
        generalize wr.drewN (1 + q) = wq at HR2 HK2 ⊢
        go_wp2_with fail
        go_roundw
        case rel => exact ⟨hh + 1, j, by have := HB1.out; omega, by have := HB1.out; omega, h3, by go_num, rfl, HI2, HJ, HR2, HK2⟩
        case measure => have := HB1.out; simp [intOf]; omega
      · have d1 : decide (cz u x < 0) = false := decide_eq_false (fun q => hc ((cz_lt u x).1 q))
        go_wp2_with fail
        go_region_held3 (fun w' => w'.cell? ⟨g, hh, none⟩ = some (.int .u64 u) ∧ w'.cell? ⟨g, a, none⟩ = some (.int .u64 x))
          (first | exact hS _ (below_drew (Below.refl _ _)) | exact hS _ (pw_below_drewN (Below.refl _ _) _))
          (first | (go_at_call 29; refine (cl_calls u x huw hx _).mono ?_; rintro e w2 ⟨rfl, q, rfl⟩))
        rename_i hHeld_
        clear hHeld_ hS
        have HR2 := Aside0.mk (HRr.out.drewN (1 + q))
        have HK2 := Aside0.mk (HKr.out.drewN (1 + q))
        have HJ2 : Aside0 (∀ p, hh - m ≤ p → p < Y.length → kz x ≤ kz (Y.getD p 0)) := ⟨fun p hp hl => by
          have h1 := sd_get HY.out (hh - m) p hl hp
          rw [HU.out] at h1
          omega⟩
        clear HRr HKr HJ
        generalize wr.drewN (1 + q) = wq at HR2 HK2 ⊢
        go_wp2_with fail
        go_roundw
        case rel => exact ⟨i, hh, h1, by have := HB1.out; omega, by have := HB1.out; omega, rfl, by go_num, HI, HJ2, HR2, HK2⟩
        case measure => have := HB1.out; simp [intOf]; omega
    · have hij2 : i = j := by omega
      subst hij2
      obtain ⟨t, ht⟩ : ∃ t, i - m = t := ⟨_, rfl⟩
      rw [ht] at HI HJ
      have hmg : mg kz [x] Y = Y.take t ++ x :: Y.drop t := mg_one x Y t HI.out (fun p h1 h2 => HJ.out p h1 h2)
      have htY : t ≤ Y.length := by have := HB.out; omega
      have HMG := Aside0.mk hmg
      have w2 : IntKind.i64.wrap ((i : Int) - 1) = ((a + t : Nat) : Int) := by rw [IntWalk.i64_in _ (by omega)]; have := HM.out; omega
      obtain ⟨e, he⟩ : ∃ e, a + t = e := ⟨_, rfl⟩
      rw [he] at w2
      have HE := Aside0.mk he
      have hab : a < n := by have := HM.out; omega
      have htb : e < n := by have := HM.out; omega
      clear ht hmg he HI HJ
      have H0 : Aside0 (Row wr g n cap (A ++ (Y.take (a - a) ++ x :: (Y.drop (a - a) ++ B)))) := ⟨by
        have := HRr.out
        simpa using this⟩
      clear HRr
      go_wp2_with fail
      go_loopw [13] (fun v13 w2 => ∃ k : Nat, a ≤ k ∧ k ≤ e ∧ v13 = .int .i64 k ∧ Aside0 (Row w2 g n cap (A ++ (Y.take (k - a) ++ x :: (Y.drop (k - a) ++ B)))) ∧ Aside0 (Kp g w w2)) (fun v13 _ => e - (intOf v13).toNat)
      case atStart => exact ⟨a, Nat.le_refl _, by have := HE.out; omega, rfl, H0, HKr⟩
      case round =>
        clear H0 HKr
        obtain ⟨k, k1, k2, rfl, HRk, HKk⟩ := hrel
        by_cases hke : k < e
        · have w3 : IntKind.i64.wrap ((k : Int) + 1) = ((k + 1 : Nat) : Int) := by rw [IntWalk.i64_in _ (by omega)]; omega
          obtain ⟨y, hy⟩ : ∃ y, Y.getD (k - a) 0 = y := ⟨_, rfl⟩
          have hkY : k - a < Y.length := by have := HE.out; omega
          have hdrop : Y.drop (k - a) = y :: Y.drop (k - a + 1) := by
            rw [List.drop_eq_getElem_cons hkY, ← hy, List.getD_eq_getElem?_getD, List.getElem?_eq_getElem hkY]; rfl
          have htake : Y.take (k - a + 1) = Y.take (k - a) ++ [y] := by
            rw [List.take_succ_eq_append_getElem hkY, ← hy, List.getD_eq_getElem?_getD, List.getElem?_eq_getElem hkY]; rfl
          have hPl : (A ++ Y.take (k - a)).length = k := by rw [List.length_append, List.length_take]; have := HA.out; omega
          have hD : A ++ (Y.take (k - a) ++ x :: (Y.drop (k - a) ++ B)) = (A ++ Y.take (k - a)) ++ x :: (y :: (Y.drop (k - a + 1) ++ B)) := by rw [hdrop, List.append_assoc A]; rfl
          have hlen : (A ++ (Y.take (k - a) ++ x :: (Y.drop (k - a) ++ B))).length = n := HRk.out.len.symm
          obtain ⟨c0, c1⟩ := HRk.out.at k (by rw [hlen]; omega)
          obtain ⟨c2, c3⟩ := HRk.out.at (k + 1) (by rw [hlen]; omega)
          have hr2 := (HRk.out.put k y).put (k + 1) x
          obtain ⟨c4, c5⟩ := (HRk.out.put k y).at (k + 1) (by rw [List.length_set, hlen]; omega)
          have hset : ((A ++ (Y.take (k - a) ++ x :: (Y.drop (k - a) ++ B))).set k y).set (k + 1) x = A ++ (Y.take (k + 1 - a) ++ x :: (Y.drop (k + 1 - a) ++ B)) := by
            rw [hD]
            have := set_two (A ++ Y.take (k - a)) x y (Y.drop (k - a + 1) ++ B)
            rw [hPl] at this
            rw [this, show k + 1 - a = k - a + 1 by omega, htake]
            simp
          have g0 : (A ++ (Y.take (k - a) ++ x :: (Y.drop (k - a) ++ B))).getD k 0 = x := by
            rw [hD]
            have := getD_mid (A ++ Y.take (k - a)) x (y :: (Y.drop (k - a + 1) ++ B))
            rw [hPl] at this
            exact this
          have g1 : (A ++ (Y.take (k - a) ++ x :: (Y.drop (k - a) ++ B))).getD (k + 1) 0 = y := by
            rw [hD]
            have := getD_mid (A ++ Y.take (k - a) ++ [x]) y (Y.drop (k - a + 1) ++ B)
            rw [show (A ++ Y.take (k - a) ++ [x]).length = k + 1 by rw [List.length_append, hPl]; rfl] at this
            have e : A ++ Y.take (k - a) ++ x :: (y :: (Y.drop (k - a + 1) ++ B)) = (A ++ Y.take (k - a) ++ [x]) ++ y :: (Y.drop (k - a + 1) ++ B) := by rw [List.append_assoc (A ++ Y.take (k - a)) [x]]; rfl
            rw [e]
            exact this
          have g2 : ((A ++ (Y.take (k - a) ++ x :: (Y.drop (k - a) ++ B))).set k y).getD (k + 1) 0 = y := by
            rw [List.getD_eq_getElem?_getD, List.getElem?_set_ne (by omega), ← List.getD_eq_getElem?_getD, g1]
          rw [g0] at c0
          rw [g1] at c2
          rw [g2] at c4
          rw [hset] at hr2
          have HR2 := Aside0.mk hr2.drew
          have HK2 := Aside0.mk (((HKk.out.set k (.int .u64 y)).set (k + 1) (.int .u64 x)).drew)
          have hkn : ((k + 1 : Nat) : Int) < (n : Int) := by omega
          have hkn2 : (k : Int) < (n : Int) := by omega
          have hne : k ≠ k + 1 := by omega
          obtain ⟨q, hq⟩ : ∃ q, k + 1 = q := ⟨_, rfl⟩
          rw [hq] at w3 c2 c3 c4 c5 hkn hne HK2
          rw [hq] at HR2
          have hne2 : q ≠ k := Ne.symm hne
          have HQ := Aside0.mk hq
          have hke2 : (k : Int) < (e : Int) := by omega
          clear hq hr2 hset g0 g1 g2 hD hlen hPl htake hdrop hy HRk HKk
          go_wp2_with fail
          go_big_region
          clear c0 c1 c2 c3 c4 c5
          go_wp2_with fail
          go_roundw
          case rel => exact ⟨q, by have := HQ.out; omega, by have := HQ.out; omega, by have := HQ.out; go_num, HR2, HK2⟩
          case measure => have := HQ.out; simp [intOf]; omega
        · have hke2 : k = e := by omega
          subst hke2
          have hT : A ++ (Y.take (k - a) ++ x :: (Y.drop (k - a) ++ B)) = A ++ (mg kz [x] Y ++ B) := by
            rw [HMG.out, show k - a = t by have := HE.out; omega, List.append_assoc]; rfl
          rw [hT] at HRk
          clear hT
          go_wp2_with fail
          exact bodyPost_ret (v := .tuple #[]) (by simp [results, Try.results47, go_sem]) rfl ⟨rfl, HRk.out, HKk.out⟩
end Go.Proofs.Ytlobedghenflfaa.P
