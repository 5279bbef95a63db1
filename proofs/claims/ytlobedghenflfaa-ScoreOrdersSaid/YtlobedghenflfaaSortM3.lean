/- Sorting: two parts in order are put together (written by sortgen.py). No condition but each theorem's own. -/
import Derived.Test.YtlobedghenflfaaSortM2
namespace Go.Proofs.Ytlobedghenflfaa.P
open Go.RowKit Go.Proofs.YtlobedghenflfaaW.PrintWords Go.Proofs.YtlobedghenflfaaW.PrintLast Go.Proofs.YtlobedghenflfaaW.PrintMore Go.Proofs.Ytlobedghenflfaa.S
set_option linter.unusedVariables false
set_option linter.unusedSimpArgs false
theorem split_facts (X Y : List Int) (hX : Sd kz X) (hY : Sd kz Y) (a m b mid s s0 r0 : Nat) (hm : m = a + X.length) (hb : b = m + Y.length) (hs : s0 ≤ s ∧ s ≤ r0) (ha0 : a ≤ s0) (hmid : a < mid ∧ mid < b ∧ 2 * mid ≤ a + b)
    (hcase : (m > mid ∧ s0 + b = mid + m ∧ r0 = mid) ∨ (m ≤ mid ∧ s0 = a ∧ r0 = m))
    (HI : ∀ c, s0 ≤ c → c < s → kz (X.getD (c - a) 0) ≤ kz (Y.getD (mid - 1 - c) 0)) (HJ : ∀ c, s ≤ c → c < r0 → kz (Y.getD (mid - 1 - c) 0) < kz (X.getD (c - a) 0)) :
    (∀ x ∈ X.take (s - a), ∀ y ∈ Y.drop (mid - s), kz x ≤ kz y) ∧ (∀ x ∈ X.drop (s - a), ∀ y ∈ Y.take (mid - s), kz y < kz x) := by
  have gx : ∀ (l : List Int) (i : Nat) (h : i < l.length), l[i] = l.getD i 0 := fun l i h => by rw [List.getD_eq_getElem?_getD, List.getElem?_eq_getElem h]; rfl
  refine ⟨fun x hx y hy => ?_, fun x hx y hy => ?_⟩
  · obtain ⟨i, hi, rfl⟩ := List.getElem_of_mem hx
    obtain ⟨j, hj, rfl⟩ := List.getElem_of_mem hy
    rw [List.length_take] at hi
    rw [List.length_drop] at hj
    rw [List.getElem_take, List.getElem_drop, gx, gx]
    have hlt : s0 < s := by omega
    have h1 := HI (s - 1) (by omega) (by omega)
    have h2 := sd_get hX i (s - 1 - a) (by omega) (by omega)
    have h3 := sd_get hY (mid - 1 - (s - 1)) (mid - s + j) (by omega) (by omega)
    omega
  · obtain ⟨i, hi, rfl⟩ := List.getElem_of_mem hx
    obtain ⟨j, hj, rfl⟩ := List.getElem_of_mem hy
    rw [List.length_drop] at hi
    rw [List.length_take] at hj
    rw [List.getElem_take, List.getElem_drop, gx, gx]
    have hlt : s < r0 := by omega
    have h1 := HJ s (by omega) hlt
    have h2 := sd_get hX (s - a) (s - a + i) (by omega) (by omega)
    have h3 := sd_get hY j (mid - 1 - s) (by omega) (by omega)
    omega
/-- a part of a list that is put together -/
def MergesAt (N : Nat) : Prop := ∀ (g n cap : Nat) (A X Y B : List Int) (a m b : Nat) (w : World), b - a ≤ N → n ≤ 4611686018427387904 → Row w g n cap (A ++ (X ++ (Y ++ B))) → Wd X → Wd Y → a = A.length → m = a + X.length → b = m + Y.length → 0 < X.length → 0 < Y.length → Sd kz X → Sd kz Y →
  Calls Try.prog 47 #[.slice (some ⟨g, 0, none⟩) n cap, .int .i64 a, .int .i64 m, .int .i64 b, fv] w fun e w' => e = .returned (.tuple #[]) ∧ Row w' g n cap (A ++ (mg kz X Y ++ B)) ∧ Kp g w w'
structure Tail (g n cap : Nat) (A X Y B X1 X2 Y1 Y2 : List Int) (a m b mid s e : Nat) : Prop where
  c1 : ∀ w : World, Row w g n cap (A ++ (X1 ++ (X2 ++ (Y1 ++ (Y2 ++ B))))) → s < m ∧ m < e → Calls Try.prog 50 #[.slice (some ⟨g, 0, none⟩) n cap, .int .i64 s, .int .i64 m, .int .i64 e, fv] w fun e w' => e = .returned (.tuple #[]) ∧ Row w' g n cap (A ++ (X1 ++ (Y1 ++ (X2 ++ (Y2 ++ B))))) ∧ Kp g w w'
  c2 : ∀ w : World, Row w g n cap (A ++ (X1 ++ (Y1 ++ (X2 ++ (Y2 ++ B))))) → a < s ∧ s < mid → Calls Try.prog 47 #[.slice (some ⟨g, 0, none⟩) n cap, .int .i64 a, .int .i64 s, .int .i64 mid, fv] w fun e w' => e = .returned (.tuple #[]) ∧ Row w' g n cap (A ++ (mg kz X1 Y1 ++ (X2 ++ (Y2 ++ B)))) ∧ Kp g w w'
  c3 : ∀ w : World, Row w g n cap (A ++ (mg kz X1 Y1 ++ (X2 ++ (Y2 ++ B)))) → mid < e ∧ e < b → Calls Try.prog 47 #[.slice (some ⟨g, 0, none⟩) n cap, .int .i64 mid, .int .i64 e, .int .i64 b, fv] w fun e w' => e = .returned (.tuple #[]) ∧ Row w' g n cap (A ++ (mg kz X Y ++ B)) ∧ Kp g w w'
  e1 : ¬ (s < m ∧ m < e) → A ++ (X1 ++ (Y1 ++ (X2 ++ (Y2 ++ B)))) = A ++ (X1 ++ (X2 ++ (Y1 ++ (Y2 ++ B))))
  e2 : ¬ (a < s ∧ s < mid) → A ++ (mg kz X1 Y1 ++ (X2 ++ (Y2 ++ B))) = A ++ (X1 ++ (Y1 ++ (X2 ++ (Y2 ++ B))))
  e3 : ¬ (mid < e ∧ e < b) → A ++ (mg kz X Y ++ B) = A ++ (mg kz X1 Y1 ++ (X2 ++ (Y2 ++ B)))
theorem sd_l {P Q : List Int} (h : Sd kz (P ++ Q)) : Sd kz P := (List.pairwise_append.1 h).1
theorem sd_r {P Q : List Int} (h : Sd kz (P ++ Q)) : Sd kz Q := (List.pairwise_append.1 h).2.1
theorem tail_facts (N : Nat) (ih : MergesAt N) (g n cap : Nat) (A X Y B X1 X2 Y1 Y2 : List Int) (a m b mid s e : Nat) (hn : n ≤ 4611686018427387904) (hX : X = X1 ++ X2) (hY : Y = Y1 ++ Y2) (sX : Sd kz X) (sY : Sd kz Y) (wX : Wd X) (wY : Wd Y)
    (ha : a = A.length) (hs : s = a + X1.length) (hm : m = s + X2.length) (hmid : mid = s + Y1.length) (he : e = m + Y1.length) (hb : b = e + Y2.length) (hN : mid - a ≤ N ∧ b - mid ≤ N)
    (f1 : ∀ x ∈ X1, ∀ y ∈ Y2, kz x ≤ kz y) (f2 : ∀ x ∈ X2, ∀ y ∈ Y1, kz y < kz x) : Tail g n cap A X Y B X1 X2 Y1 Y2 a m b mid s e := by
  have hmg : mg kz X Y = mg kz X1 Y1 ++ mg kz X2 Y2 := by rw [hX, hY]; exact mg_split kz _ X1 X2 Y1 Y2 rfl f1 f2
  have nil : ∀ (l : List Int), ¬ 0 < l.length → l = [] := fun l h => List.length_eq_zero_iff.1 (by omega)
  have hml : (mg kz X1 Y1).length = X1.length + Y1.length := mg_len kz _ X1 Y1 rfl
  refine ⟨fun w hR q => ?_, fun w hR q => ?_, fun w hR q => ?_, fun q => ?_, fun q => ?_, fun q => ?_⟩
  · have := rotate_calls g n cap (A ++ X1) X2 Y1 (Y2 ++ B) s m e fv w (by simpa using hR) (by rw [List.length_append]; omega) hm he (by omega) (by omega)
    simpa using this
  · exact ih g n cap A X1 Y1 (X2 ++ (Y2 ++ B)) a s mid w hN.1 hn hR (fun z hz => wX z (by rw [hX]; exact List.mem_append_left _ hz)) (fun z hz => wY z (by rw [hY]; exact List.mem_append_left _ hz)) ha hs hmid (by omega) (by omega) (by rw [hX] at sX; exact sd_l sX) (by rw [hY] at sY; exact sd_l sY)
  · have := ih g n cap (A ++ mg kz X1 Y1) X2 Y2 B mid e b w hN.2 hn (by simpa using hR) (fun z hz => wX z (by rw [hX]; exact List.mem_append_right _ hz)) (fun z hz => wY z (by rw [hY]; exact List.mem_append_right _ hz)) (by rw [List.length_append]; omega) (by omega) hb (by omega) (by omega) (by rw [hX] at sX; exact sd_r sX) (by rw [hY] at sY; exact sd_r sY)
    rw [hmg]
    simpa using this
  · by_cases h : 0 < X2.length
    · rw [nil Y1 (by omega)]; simp
    · rw [nil X2 h]; simp
  · by_cases h : 0 < X1.length
    · rw [nil Y1 (by omega), mg_nil_r]; simp
    · rw [nil X1 h, mg_nil_l]; simp
  · rw [hmg]
    by_cases h : 0 < X2.length
    · rw [nil Y2 (by omega), mg_nil_r]; simp
    · rw [nil X2 h, mg_nil_l]; simp
set_option maxHeartbeats 16000000 in
set_option maxRecDepth 100000 in
theorem symMerge_rec (N : Nat) (ih : MergesAt N) (g n cap : Nat) (A X Y B : List Int) (a m b : Nat) (w : World) (hN : b - a ≤ N + 1) (hn : n ≤ 4611686018427387904) (h : Row w g n cap (A ++ (X ++ (Y ++ B)))) (wX : Wd X) (wY : Wd Y) (ha : a = A.length) (hm : m = a + X.length) (hb : b = m + Y.length) (lX : 2 ≤ X.length) (lY : 2 ≤ Y.length) (sX : Sd kz X) (sY : Sd kz Y) :
    Calls Try.prog 47 #[.slice (some ⟨g, 0, none⟩) n cap, .int .i64 a, .int .i64 m, .int .i64 b, fv] w fun e w' => e = .returned (.tuple #[]) ∧ Row w' g n cap (A ++ (mg kz X Y ++ B)) ∧ Kp g w w' := by
  have HL : Aside0 (n = A.length + X.length + Y.length + B.length) := ⟨by have := h.len; simp at this; omega⟩
  have hbn : b ≤ n := by have := HL.out; omega
  have HR := Aside0.mk h
  have WX := Aside0.mk wX
  have WY := Aside0.mk wY
  have SX := Aside0.mk sX
  have SY := Aside0.mk sY
  have HA := Aside0.mk ha
  have HM := Aside0.mk hm
  have HB := Aside0.mk hb
  have ham : a + 2 ≤ m := by omega
  have hmb : m + 2 ≤ b := by omega
  have w0 : IntKind.i64.wrap ((m : Int) - (a : Int)) = ((X.length : Nat) : Int) := by rw [IntWalk.i64_in _ (by omega)]; omega
  have w00 : (((X.length : Nat) : Int) == 1) = false := by
    cases hq : (((X.length : Nat) : Int) == 1) with
    | false => rfl
    | true => have := eq_of_beq hq; omega
  have w01 : IntKind.i64.wrap ((b : Int) - (m : Int)) = ((Y.length : Nat) : Int) := by rw [IntWalk.i64_in _ (by omega)]; omega
  have w02 : (((Y.length : Nat) : Int) == 1) = false := by
    cases hq : (((Y.length : Nat) : Int) == 1) with
    | false => rfl
    | true => have := eq_of_beq hq; omega
  have w1 := half_wrap a b (by omega)
  obtain ⟨ab, hab⟩ : ∃ ab, a + b = ab := ⟨_, rfl⟩
  rw [hab] at w1
  obtain ⟨mid, hmid⟩ : ∃ mid, ab / 2 = mid := ⟨_, rfl⟩
  have h8 : (ab : Int) / 2 = (mid : Int) := by omega
  have MID : Aside0 (a < mid ∧ mid < b ∧ (2 * mid = a + b ∨ 2 * mid + 1 = a + b)) := ⟨by omega⟩
  have w2 : IntKind.i64.wrap ((mid : Int) + (m : Int)) = ((mid + m : Nat) : Int) := by rw [IntWalk.i64_in _ (by omega)]; omega
  obtain ⟨nn, hnn⟩ : ∃ nn, mid + m = nn := ⟨_, rfl⟩
  rw [hnn] at w2
  have NN := Aside0.mk hnn
  have w4 : IntKind.i64.wrap ((nn : Int) - 1) = ((nn - 1 : Nat) : Int) := by rw [IntWalk.i64_in _ (by omega)]; omega
  obtain ⟨pp, hpp⟩ : ∃ pp, nn - 1 = pp := ⟨_, rfl⟩
  rw [hpp] at w4
  have PP := Aside0.mk hpp
  clear h wX wY sX sY ha hm hb lX lY hab hmid hnn hpp
  by_cases hcase : m > mid
  · have w3 : IntKind.i64.wrap ((nn : Int) - (b : Int)) = ((nn - b : Nat) : Int) := by have := NN.out; have := MID.out; rw [IntWalk.i64_in _ (by omega)]; omega
    obtain ⟨s0, hs0⟩ : ∃ s0, nn - b = s0 := ⟨_, rfl⟩
    rw [hs0] at w3
    obtain ⟨r0, hr0⟩ : ∃ r0, mid = r0 := ⟨_, rfl⟩
    have HC : Aside0 ((m > mid ∧ s0 + b = mid + m ∧ r0 = mid) ∨ (m ≤ mid ∧ s0 = a ∧ r0 = m)) := ⟨.inl ⟨hcase, by have := NN.out; have := MID.out; omega, hr0.symm⟩⟩
    have HS0 : Aside0 (a ≤ s0 ∧ s0 ≤ r0 ∧ r0 ≤ m ∧ r0 ≤ mid) := ⟨by have := NN.out; have := MID.out; omega⟩
    have hd0 : decide ((mid : Int) < (m : Int)) = true := decide_eq_true (by omega)
    have hd1 : (mid : Int) < (m : Int) := by omega
    have HRR := Aside0.mk hr0
    unfold fv
    clear hs0 hcase hr0
    go_enter Try.func47, Try.ntmps47
    go_wp2_with fail
    clear w0 w00 w01 w02 w1 h8 w2 w3 w4 hd0 hd1
    go_loopw [20, 21] (fun v10 v11 wr => ∃ s r : Nat, s0 ≤ s ∧ s ≤ r ∧ r ≤ r0 ∧ v10 = .int .i64 s ∧ v11 = .int .i64 r ∧ Aside0 (∀ c, s0 ≤ c → c < s → kz (X.getD (c - a) 0) ≤ kz (Y.getD (mid - 1 - c) 0)) ∧ Aside0 (∀ c, r ≤ c → c < r0 → kz (Y.getD (mid - 1 - c) 0) < kz (X.getD (c - a) 0)) ∧ Aside0 (Row wr g n cap (A ++ (X ++ (Y ++ B)))) ∧ Aside0 (Kp g w wr)) (fun v10 v11 _ => (intOf v11).toNat - (intOf v10).toNat)
    case atStart => exact ⟨s0, r0, Nat.le_refl _, HS0.out.2.1, Nat.le_refl _, rfl, by rw [HRR.out], ⟨fun c h1 h2 => by omega⟩, ⟨fun c h1 h2 => by omega⟩, HR, ⟨Kp.refl g w⟩⟩
    case round =>
      clear HR
      obtain ⟨s, r, h1, h2, h3, rfl, rfl, HI, HJ, HRr, HKr⟩ := hrel
      by_cases hij : s < r
      · have w1 := half_wrap s r (by have := HS0.out; omega)
        obtain ⟨sr, hs⟩ : ∃ sr, s + r = sr := ⟨_, rfl⟩
        rw [hs] at w1
        obtain ⟨c, hhe⟩ : ∃ c, sr / 2 = c := ⟨_, rfl⟩
        have h8 : (sr : Int) / 2 = (c : Int) := by omega
        have b1 : s0 ≤ c ∧ s ≤ c ∧ c < r := by omega
        have HB1 := Aside0.mk b1
        have hcn : (c : Int) < (n : Int) := by have := HS0.out; omega
        have w3 : IntKind.i64.wrap ((pp : Int) - (c : Int)) = ((pp - c : Nat) : Int) := by have := HS0.out; have := NN.out; have := PP.out; have := MID.out; rw [IntWalk.i64_in _ (by omega)]; omega
        obtain ⟨q, hq⟩ : ∃ q, pp - c = q := ⟨_, rfl⟩
        rw [hq] at w3
        have hqe : q = m + (mid - 1 - c) ∧ mid - 1 - c < Y.length := by have := HS0.out; have := NN.out; have := PP.out; have := HB.out; have := HC.out; have := MID.out; omega
        have hqn : (q : Int) < (n : Int) := by have := HB.out; omega
        have HQE := Aside0.mk hqe
        have hcX : c - a < X.length := by have := HS0.out; have := HM.out; omega
        clear hs hhe b1 hq hqe
        obtain ⟨u, hu⟩ : ∃ u, X.getD (c - a) 0 = u := ⟨_, rfl⟩
        obtain ⟨v, hv⟩ : ∃ v, Y.getD (mid - 1 - c) 0 = v := ⟨_, rfl⟩
        have hlen : (A ++ (X ++ (Y ++ B))).length = n := HRr.out.len.symm
        have c1 := (HRr.out.at c (by rw [hlen]; omega)).1
        have c2 := (HRr.out.at q (by rw [hlen]; omega)).1
        have e1 : (A ++ (X ++ (Y ++ B))).getD c 0 = u := by
          rw [show c = A.length + (c - a) by have := HB1.out; have := HA.out; have := HS0.out; omega, getD_app, getD_left _ _ _ hcX, hu]
        have e2 : (A ++ (X ++ (Y ++ B))).getD q 0 = v := by
          rw [← List.append_assoc, show q = (A ++ X).length + (mid - 1 - c) by rw [List.length_append]; have := HQE.out; have := HA.out; have := HM.out; omega, getD_app, getD_left _ _ _ HQE.out.2, hv]
        rw [e1] at c1
        rw [e2] at c2
        have huw : 0 ≤ u ∧ u < 2 ^ 64 := by rw [← hu]; exact WX.out _ (getD_mem X (c - a) hcX)
        have hvw : 0 ≤ v ∧ v < 2 ^ 64 := by rw [← hv]; exact WY.out _ (getD_mem Y _ HQE.out.2)
        have HU := Aside0.mk hu
        have HV := Aside0.mk hv
        have HCX := Aside0.mk hcX
        clear hu hv e1 e2 hlen hcX
        have hS : ∀ w', Below wr.heap.size wr w' → w'.cell? ⟨g, c, none⟩ = some (.int .u64 u) ∧ w'.cell? ⟨g, q, none⟩ = some (.int .u64 v) := fun w' hb => ⟨pw_cell_below hb c1, pw_cell_below hb c2⟩
        clear c1 c2
        by_cases hc : kz v < kz u
        · have d1 : decide (cz v u < 0) = true := decide_eq_true ((cz_lt v u).2 hc)
          go_wp2_with fail
          go_region_held3 (fun w' => w'.cell? ⟨g, c, none⟩ = some (.int .u64 u) ∧ w'.cell? ⟨g, q, none⟩ = some (.int .u64 v))
            (first | exact hS _ (below_drew (Below.refl _ _)) | exact hS _ (pw_below_drewN (Below.refl _ _) _))
            (first | (go_at_call 29; refine (cl_calls v u hvw huw _).mono ?_; rintro e w2 ⟨rfl, z, rfl⟩))
          rename_i hHeld_
          clear hHeld_ hS
          have HR2 := Aside0.mk (HRr.out.drewN (1 + z))
          have HK2 := Aside0.mk (HKr.out.drewN (1 + z))
          have HJ2 : Aside0 (∀ c', c ≤ c' → c' < r0 → kz (Y.getD (mid - 1 - c') 0) < kz (X.getD (c' - a) 0)) := ⟨fun c' p1 p2 => by
            have g1 := sd_get SX.out (c - a) (c' - a) (by have := HS0.out; have := HM.out; omega) (by omega)
            have g2 := sd_get SY.out (mid - 1 - c') (mid - 1 - c) HQE.out.2 (by omega)
            rw [HU.out] at g1
            rw [HV.out] at g2
            omega⟩
          clear HRr HKr HJ
          generalize wr.drewN (1 + z) = wq at HR2 HK2 ⊢
          go_wp2_with fail
          go_roundw
          case rel => exact ⟨s, c, h1, by have := HB1.out; omega, by have := HB1.out; omega, rfl, by go_num, HI, HJ2, HR2, HK2⟩
          case measure => have := HB1.out; simp [intOf]; omega
        · have d1 : decide (cz v u < 0) = false := decide_eq_false (fun q => hc ((cz_lt v u).1 q))
          have hw2 : IntKind.i64.wrap ((c : Int) + 1) = ((c + 1 : Nat) : Int) := by rw [IntWalk.i64_in _ (by omega)]; omega
          go_wp2_with fail
          go_region_held3 (fun w' => w'.cell? ⟨g, c, none⟩ = some (.int .u64 u) ∧ w'.cell? ⟨g, q, none⟩ = some (.int .u64 v))
            (first | exact hS _ (below_drew (Below.refl _ _)) | exact hS _ (pw_below_drewN (Below.refl _ _) _))
            (first | (go_at_call 29; refine (cl_calls v u hvw huw _).mono ?_; rintro e w2 ⟨rfl, z, rfl⟩))
          rename_i hHeld_
          clear hHeld_ hS
          have HR2 := Aside0.mk (HRr.out.drewN (1 + z))
          have HK2 := Aside0.mk (HKr.out.drewN (1 + z))
          have HI2 : Aside0 (∀ c', s0 ≤ c' → c' < c + 1 → kz (X.getD (c' - a) 0) ≤ kz (Y.getD (mid - 1 - c') 0)) := ⟨fun c' p1 p2 => by
            have hy : mid - 1 - c' < Y.length := by have := HS0.out; have := HB.out; have := HC.out; have := MID.out; omega
            have g1 := sd_get SX.out (c' - a) (c - a) HCX.out (by omega)
            have g2 := sd_get SY.out (mid - 1 - c) (mid - 1 - c') hy (by omega)
            rw [HU.out] at g1
            rw [HV.out] at g2
            omega⟩
          clear HRr HKr HI
          generalize wr.drewN (1 + z) = wq at HR2 HK2 ⊢
          go_wp2_with fail
          go_roundw
          case rel => exact ⟨c + 1, r, by have := HB1.out; omega, by have := HB1.out; omega, h3, by go_num, rfl, HI2, HJ, HR2, HK2⟩
          case measure => have := HB1.out; simp [intOf]; omega
      · have hij2 : s = r := by omega
        subst hij2
        have hsb : a ≤ s ∧ s ≤ m ∧ s ≤ mid := by have := HS0.out; omega
        obtain ⟨f1, f2⟩ := split_facts X Y SX.out SY.out a m b mid s s0 r0 HM.out HB.out ⟨h1, h3⟩ HS0.out.1 ⟨MID.out.1, MID.out.2.1, by have := MID.out; omega⟩ HC.out HI.out HJ.out
        have w5 : IntKind.i64.wrap ((nn : Int) - (s : Int)) = ((nn - s : Nat) : Int) := by have := NN.out; have := MID.out; rw [IntWalk.i64_in _ (by omega)]; omega
        obtain ⟨e, he⟩ : ∃ e, nn - s = e := ⟨_, rfl⟩
        rw [he] at w5
        have hel : e = m + (mid - s) ∧ mid - s ≤ Y.length := by have := NN.out; have := HB.out; have := HC.out; have := MID.out; omega
        have lx1 : (X.take (s - a)).length = s - a := by rw [List.length_take]; have := HM.out; omega
        have lx2 : (X.drop (s - a)).length = m - s := by rw [List.length_drop]; have := HM.out; omega
        have ly1 : (Y.take (mid - s)).length = mid - s := by rw [List.length_take]; omega
        have ly2 : (Y.drop (mid - s)).length = b - e := by rw [List.length_drop]; have := HB.out; omega
        have ht := tail_facts N ih g n cap A X Y B (X.take (s - a)) (X.drop (s - a)) (Y.take (mid - s)) (Y.drop (mid - s)) a m b mid s e hn (List.take_append_drop _ _).symm (List.take_append_drop _ _).symm SX.out SY.out WX.out WY.out HA.out (by omega) (by omega) (by omega) (by omega) (by have := HB.out; omega) (by have := MID.out; omega) f1 f2
        have hRs : Row wr g n cap (A ++ (X.take (s - a) ++ (X.drop (s - a) ++ (Y.take (mid - s) ++ (Y.drop (mid - s) ++ B))))) := by
          have e1 : A ++ (X.take (s - a) ++ (X.drop (s - a) ++ (Y.take (mid - s) ++ (Y.drop (mid - s) ++ B)))) = A ++ (X ++ (Y ++ B)) := by
            rw [← List.append_assoc (X.take (s - a)), List.take_append_drop, ← List.append_assoc (Y.take (mid - s)), List.take_append_drop]
          rw [e1]; exact HRr.out
        clear HRr lx1 lx2 ly1 ly2 f1 f2 HI HJ he h1 h2 h3 hel hij
        have HRr := Aside0.mk hRs
        clear hRs
        generalize X.take (s - a) = X1 at ht HRr
        generalize X.drop (s - a) = X2 at ht HRr
        generalize Y.take (mid - s) = Y1 at ht HRr
        generalize Y.drop (mid - s) = Y2 at ht HRr
        have HC1 := Aside0.mk ht.c1
        have HC2 := Aside0.mk ht.c2
        have HC3 := Aside0.mk ht.c3
        have HE1 := Aside0.mk ht.e1
        have HE2 := Aside0.mk ht.e2
        have HE3 := Aside0.mk ht.e3
        clear ht
        by_cases q1 : s < m ∧ m < e
        · have d1 : decide ((s : Int) < (m : Int)) = true := decide_eq_true (by omega)
          have d2 : decide ((m : Int) < (e : Int)) = true := decide_eq_true (by omega)
          go_wp2_with fail
          have hc1 := HC1.out _ HRr.out q1
          unfold fv at hc1
          refine hc1.mono ?_
          rintro e1 w1 ⟨rfl, hR1, hK1⟩
          have H1R := Aside0.mk hR1
          have H1K := Aside0.mk (HKr.out.trans hK1)
          clear hR1 hK1 hc1 d1 d2 HRr HKr
          by_cases q2 : a < s ∧ s < mid
          · have d3 : decide ((a : Int) < (s : Int)) = true := decide_eq_true (by omega)
            have d4 : decide ((s : Int) < (mid : Int)) = true := decide_eq_true (by omega)
            go_wp2_with fail
            have hc2 := HC2.out _ H1R.out q2
            unfold fv at hc2
            refine hc2.mono ?_
            rintro e2 w2 ⟨rfl, hR2, hK2⟩
            have H2R := Aside0.mk hR2
            have H2K := Aside0.mk (H1K.out.trans hK2)
            clear hR2 hK2 hc2 d3 d4 H1R H1K
            by_cases q3 : mid < e ∧ e < b
            · have d5 : decide ((mid : Int) < (e : Int)) = true := decide_eq_true (by omega)
              have d6 : decide ((e : Int) < (b : Int)) = true := decide_eq_true (by omega)
              go_wp2_with fail
              all_goals have hc3 := HC3.out _ H2R.out q3
              all_goals unfold fv at hc3
              all_goals refine hc3.mono ?_
              all_goals rintro e3 w3 ⟨rfl, hR3, hK3⟩
              all_goals have HR3 := Aside0.mk hR3
              all_goals have HK3 := Aside0.mk (H2K.out.trans hK3)
              all_goals clear hR3 hK3 hc3
              all_goals go_wp2_with fail
              all_goals exact bodyPost_end (v := .tuple #[]) (by simp [results, Try.results47, go_sem]) rfl ⟨rfl, HR3.out, HK3.out⟩
            · have hE3 := HE3.out q3
              have HR3 : Aside0 (Row _ g n cap (A ++ (mg kz X Y ++ B))) := ⟨by rw [hE3]; exact H2R.out⟩
              clear hE3
              by_cases q4 : mid < e
              · have d5 : decide ((mid : Int) < (e : Int)) = true := decide_eq_true (by omega)
                have d6 : decide ((e : Int) < (b : Int)) = false := decide_eq_false (by omega)
                go_wp2_with fail
                all_goals exact bodyPost_end (v := .tuple #[]) (by simp [results, Try.results47, go_sem]) rfl ⟨rfl, HR3.out, H2K.out⟩
              · have d5 : decide ((mid : Int) < (e : Int)) = false := decide_eq_false (by omega)
                go_wp2_with fail
                all_goals exact bodyPost_end (v := .tuple #[]) (by simp [results, Try.results47, go_sem]) rfl ⟨rfl, HR3.out, H2K.out⟩
          · have hE2 := HE2.out q2
            have H2R : Aside0 (Row _ g n cap (A ++ (mg kz X1 Y1 ++ (X2 ++ (Y2 ++ B))))) := ⟨by rw [hE2]; exact H1R.out⟩
            have H2K := H1K
            clear hE2 H1R H1K
            by_cases q5 : a < s
            · have d3 : decide ((a : Int) < (s : Int)) = true := decide_eq_true (by omega)
              have d4 : decide ((s : Int) < (mid : Int)) = false := decide_eq_false (by omega)
              by_cases q3 : mid < e ∧ e < b
              · have d5 : decide ((mid : Int) < (e : Int)) = true := decide_eq_true (by omega)
                have d6 : decide ((e : Int) < (b : Int)) = true := decide_eq_true (by omega)
                go_wp2_with fail
                all_goals have hc3 := HC3.out _ H2R.out q3
                all_goals unfold fv at hc3
                all_goals refine hc3.mono ?_
                all_goals rintro e3 w3 ⟨rfl, hR3, hK3⟩
                all_goals have HR3 := Aside0.mk hR3
                all_goals have HK3 := Aside0.mk (H2K.out.trans hK3)
                all_goals clear hR3 hK3 hc3
                all_goals go_wp2_with fail
                all_goals exact bodyPost_end (v := .tuple #[]) (by simp [results, Try.results47, go_sem]) rfl ⟨rfl, HR3.out, HK3.out⟩
              · have hE3 := HE3.out q3
                have HR3 : Aside0 (Row _ g n cap (A ++ (mg kz X Y ++ B))) := ⟨by rw [hE3]; exact H2R.out⟩
                clear hE3
                by_cases q4 : mid < e
                · have d5 : decide ((mid : Int) < (e : Int)) = true := decide_eq_true (by omega)
                  have d6 : decide ((e : Int) < (b : Int)) = false := decide_eq_false (by omega)
                  go_wp2_with fail
                  all_goals exact bodyPost_end (v := .tuple #[]) (by simp [results, Try.results47, go_sem]) rfl ⟨rfl, HR3.out, H2K.out⟩
                · have d5 : decide ((mid : Int) < (e : Int)) = false := decide_eq_false (by omega)
                  go_wp2_with fail
                  all_goals exact bodyPost_end (v := .tuple #[]) (by simp [results, Try.results47, go_sem]) rfl ⟨rfl, HR3.out, H2K.out⟩
            · have d3 : decide ((a : Int) < (s : Int)) = false := decide_eq_false (by omega)
              by_cases q3 : mid < e ∧ e < b
              · have d5 : decide ((mid : Int) < (e : Int)) = true := decide_eq_true (by omega)
                have d6 : decide ((e : Int) < (b : Int)) = true := decide_eq_true (by omega)
                go_wp2_with fail
                all_goals have hc3 := HC3.out _ H2R.out q3
                all_goals unfold fv at hc3
                all_goals refine hc3.mono ?_
                all_goals rintro e3 w3 ⟨rfl, hR3, hK3⟩
                all_goals have HR3 := Aside0.mk hR3
                all_goals have HK3 := Aside0.mk (H2K.out.trans hK3)
                all_goals clear hR3 hK3 hc3
                all_goals go_wp2_with fail
                all_goals exact bodyPost_end (v := .tuple #[]) (by simp [results, Try.results47, go_sem]) rfl ⟨rfl, HR3.out, HK3.out⟩
              · have hE3 := HE3.out q3
                have HR3 : Aside0 (Row _ g n cap (A ++ (mg kz X Y ++ B))) := ⟨by rw [hE3]; exact H2R.out⟩
                clear hE3
                by_cases q4 : mid < e
                · have d5 : decide ((mid : Int) < (e : Int)) = true := decide_eq_true (by omega)
                  have d6 : decide ((e : Int) < (b : Int)) = false := decide_eq_false (by omega)
                  go_wp2_with fail
                  all_goals exact bodyPost_end (v := .tuple #[]) (by simp [results, Try.results47, go_sem]) rfl ⟨rfl, HR3.out, H2K.out⟩
                · have d5 : decide ((mid : Int) < (e : Int)) = false := decide_eq_false (by omega)
                  go_wp2_with fail
                  all_goals exact bodyPost_end (v := .tuple #[]) (by simp [results, Try.results47, go_sem]) rfl ⟨rfl, HR3.out, H2K.out⟩
        · have hE1 := HE1.out q1
          have H1R : Aside0 (Row _ g n cap (A ++ (X1 ++ (Y1 ++ (X2 ++ (Y2 ++ B)))))) := ⟨by rw [hE1]; exact HRr.out⟩
          have H1K := HKr
          clear hE1 HRr HKr
          by_cases q6 : s < m
          · have d1 : decide ((s : Int) < (m : Int)) = true := decide_eq_true (by omega)
            have d2 : decide ((m : Int) < (e : Int)) = false := decide_eq_false (by omega)
            by_cases q2 : a < s ∧ s < mid
            · have d3 : decide ((a : Int) < (s : Int)) = true := decide_eq_true (by omega)
              have d4 : decide ((s : Int) < (mid : Int)) = true := decide_eq_true (by omega)
              go_wp2_with fail
              have hc2 := HC2.out _ H1R.out q2
              unfold fv at hc2
              refine hc2.mono ?_
              rintro e2 w2 ⟨rfl, hR2, hK2⟩
              have H2R := Aside0.mk hR2
              have H2K := Aside0.mk (H1K.out.trans hK2)
              clear hR2 hK2 hc2 d3 d4 H1R H1K
              by_cases q3 : mid < e ∧ e < b
              · have d5 : decide ((mid : Int) < (e : Int)) = true := decide_eq_true (by omega)
                have d6 : decide ((e : Int) < (b : Int)) = true := decide_eq_true (by omega)
                go_wp2_with fail
                all_goals have hc3 := HC3.out _ H2R.out q3
                all_goals unfold fv at hc3
                all_goals refine hc3.mono ?_
                all_goals rintro e3 w3 ⟨rfl, hR3, hK3⟩
                all_goals have HR3 := Aside0.mk hR3
                all_goals have HK3 := Aside0.mk (H2K.out.trans hK3)
                all_goals clear hR3 hK3 hc3
                all_goals go_wp2_with fail
                all_goals exact bodyPost_end (v := .tuple #[]) (by simp [results, Try.results47, go_sem]) rfl ⟨rfl, HR3.out, HK3.out⟩
              · have hE3 := HE3.out q3
                have HR3 : Aside0 (Row _ g n cap (A ++ (mg kz X Y ++ B))) := ⟨by rw [hE3]; exact H2R.out⟩
                clear hE3
                by_cases q4 : mid < e
                · have d5 : decide ((mid : Int) < (e : Int)) = true := decide_eq_true (by omega)
                  have d6 : decide ((e : Int) < (b : Int)) = false := decide_eq_false (by omega)
                  go_wp2_with fail
                  all_goals exact bodyPost_end (v := .tuple #[]) (by simp [results, Try.results47, go_sem]) rfl ⟨rfl, HR3.out, H2K.out⟩
                · have d5 : decide ((mid : Int) < (e : Int)) = false := decide_eq_false (by omega)
                  go_wp2_with fail
                  all_goals exact bodyPost_end (v := .tuple #[]) (by simp [results, Try.results47, go_sem]) rfl ⟨rfl, HR3.out, H2K.out⟩
            · have hE2 := HE2.out q2
              have H2R : Aside0 (Row _ g n cap (A ++ (mg kz X1 Y1 ++ (X2 ++ (Y2 ++ B))))) := ⟨by rw [hE2]; exact H1R.out⟩
              have H2K := H1K
              clear hE2 H1R H1K
              by_cases q5 : a < s
              · have d3 : decide ((a : Int) < (s : Int)) = true := decide_eq_true (by omega)
                have d4 : decide ((s : Int) < (mid : Int)) = false := decide_eq_false (by omega)
                by_cases q3 : mid < e ∧ e < b
                · have d5 : decide ((mid : Int) < (e : Int)) = true := decide_eq_true (by omega)
                  have d6 : decide ((e : Int) < (b : Int)) = true := decide_eq_true (by omega)
                  go_wp2_with fail
                  all_goals have hc3 := HC3.out _ H2R.out q3
                  all_goals unfold fv at hc3
                  all_goals refine hc3.mono ?_
                  all_goals rintro e3 w3 ⟨rfl, hR3, hK3⟩
                  all_goals have HR3 := Aside0.mk hR3
                  all_goals have HK3 := Aside0.mk (H2K.out.trans hK3)
                  all_goals clear hR3 hK3 hc3
                  all_goals go_wp2_with fail
                  all_goals exact bodyPost_end (v := .tuple #[]) (by simp [results, Try.results47, go_sem]) rfl ⟨rfl, HR3.out, HK3.out⟩
                · have hE3 := HE3.out q3
                  have HR3 : Aside0 (Row _ g n cap (A ++ (mg kz X Y ++ B))) := ⟨by rw [hE3]; exact H2R.out⟩
                  clear hE3
                  by_cases q4 : mid < e
                  · have d5 : decide ((mid : Int) < (e : Int)) = true := decide_eq_true (by omega)
                    have d6 : decide ((e : Int) < (b : Int)) = false := decide_eq_false (by omega)
                    go_wp2_with fail
                    all_goals exact bodyPost_end (v := .tuple #[]) (by simp [results, Try.results47, go_sem]) rfl ⟨rfl, HR3.out, H2K.out⟩
                  · have d5 : decide ((mid : Int) < (e : Int)) = false := decide_eq_false (by omega)
                    go_wp2_with fail
                    all_goals exact bodyPost_end (v := .tuple #[]) (by simp [results, Try.results47, go_sem]) rfl ⟨rfl, HR3.out, H2K.out⟩
              · have d3 : decide ((a : Int) < (s : Int)) = false := decide_eq_false (by omega)
                by_cases q3 : mid < e ∧ e < b
                · have d5 : decide ((mid : Int) < (e : Int)) = true := decide_eq_true (by omega)
                  have d6 : decide ((e : Int) < (b : Int)) = true := decide_eq_true (by omega)
                  go_wp2_with fail
                  all_goals have hc3 := HC3.out _ H2R.out q3
                  all_goals unfold fv at hc3
                  all_goals refine hc3.mono ?_
                  all_goals rintro e3 w3 ⟨rfl, hR3, hK3⟩
                  all_goals have HR3 := Aside0.mk hR3
                  all_goals have HK3 := Aside0.mk (H2K.out.trans hK3)
                  all_goals clear hR3 hK3 hc3
                  all_goals go_wp2_with fail
                  all_goals exact bodyPost_end (v := .tuple #[]) (by simp [results, Try.results47, go_sem]) rfl ⟨rfl, HR3.out, HK3.out⟩
                · have hE3 := HE3.out q3
                  have HR3 : Aside0 (Row _ g n cap (A ++ (mg kz X Y ++ B))) := ⟨by rw [hE3]; exact H2R.out⟩
                  clear hE3
                  by_cases q4 : mid < e
                  · have d5 : decide ((mid : Int) < (e : Int)) = true := decide_eq_true (by omega)
                    have d6 : decide ((e : Int) < (b : Int)) = false := decide_eq_false (by omega)
                    go_wp2_with fail
                    all_goals exact bodyPost_end (v := .tuple #[]) (by simp [results, Try.results47, go_sem]) rfl ⟨rfl, HR3.out, H2K.out⟩
                  · have d5 : decide ((mid : Int) < (e : Int)) = false := decide_eq_false (by omega)
                    go_wp2_with fail
                    all_goals exact bodyPost_end (v := .tuple #[]) (by simp [results, Try.results47, go_sem]) rfl ⟨rfl, HR3.out, H2K.out⟩
          · have d1 : decide ((s : Int) < (m : Int)) = false := decide_eq_false (by omega)
            by_cases q2 : a < s ∧ s < mid
            · have d3 : decide ((a : Int) < (s : Int)) = true := decide_eq_true (by omega)
              have d4 : decide ((s : Int) < (mid : Int)) = true := decide_eq_true (by omega)
              go_wp2_with fail
              have hc2 := HC2.out _ H1R.out q2
              unfold fv at hc2
              refine hc2.mono ?_
              rintro e2 w2 ⟨rfl, hR2, hK2⟩
              have H2R := Aside0.mk hR2
              have H2K := Aside0.mk (H1K.out.trans hK2)
              clear hR2 hK2 hc2 d3 d4 H1R H1K
              by_cases q3 : mid < e ∧ e < b
              · have d5 : decide ((mid : Int) < (e : Int)) = true := decide_eq_true (by omega)
                have d6 : decide ((e : Int) < (b : Int)) = true := decide_eq_true (by omega)
                go_wp2_with fail
                all_goals have hc3 := HC3.out _ H2R.out q3
                all_goals unfold fv at hc3
                all_goals refine hc3.mono ?_
                all_goals rintro e3 w3 ⟨rfl, hR3, hK3⟩
                all_goals have HR3 := Aside0.mk hR3
                all_goals have HK3 := Aside0.mk (H2K.out.trans hK3)
                all_goals clear hR3 hK3 hc3
                all_goals go_wp2_with fail
                all_goals exact bodyPost_end (v := .tuple #[]) (by simp [results, Try.results47, go_sem]) rfl ⟨rfl, HR3.out, HK3.out⟩
              · have hE3 := HE3.out q3
                have HR3 : Aside0 (Row _ g n cap (A ++ (mg kz X Y ++ B))) := ⟨by rw [hE3]; exact H2R.out⟩
                clear hE3
                by_cases q4 : mid < e
                · have d5 : decide ((mid : Int) < (e : Int)) = true := decide_eq_true (by omega)
                  have d6 : decide ((e : Int) < (b : Int)) = false := decide_eq_false (by omega)
                  go_wp2_with fail
                  all_goals exact bodyPost_end (v := .tuple #[]) (by simp [results, Try.results47, go_sem]) rfl ⟨rfl, HR3.out, H2K.out⟩
                · have d5 : decide ((mid : Int) < (e : Int)) = false := decide_eq_false (by omega)
                  go_wp2_with fail
                  all_goals exact bodyPost_end (v := .tuple #[]) (by simp [results, Try.results47, go_sem]) rfl ⟨rfl, HR3.out, H2K.out⟩
            · have hE2 := HE2.out q2
              have H2R : Aside0 (Row _ g n cap (A ++ (mg kz X1 Y1 ++ (X2 ++ (Y2 ++ B))))) := ⟨by rw [hE2]; exact H1R.out⟩
              have H2K := H1K
              clear hE2 H1R H1K
              by_cases q5 : a < s
              · have d3 : decide ((a : Int) < (s : Int)) = true := decide_eq_true (by omega)
                have d4 : decide ((s : Int) < (mid : Int)) = false := decide_eq_false (by omega)
                by_cases q3 : mid < e ∧ e < b
                · have d5 : decide ((mid : Int) < (e : Int)) = true := decide_eq_true (by omega)
                  have d6 : decide ((e : Int) < (b : Int)) = true := decide_eq_true (by omega)
                  go_wp2_with fail
                  all_goals have hc3 := HC3.out _ H2R.out q3
                  all_goals unfold fv at hc3
                  all_goals refine hc3.mono ?_
                  all_goals rintro e3 w3 ⟨rfl, hR3, hK3⟩
                  all_goals have HR3 := Aside0.mk hR3
                  all_goals have HK3 := Aside0.mk (H2K.out.trans hK3)
                  all_goals clear hR3 hK3 hc3
                  all_goals go_wp2_with fail
                  all_goals exact bodyPost_end (v := .tuple #[]) (by simp [results, Try.results47, go_sem]) rfl ⟨rfl, HR3.out, HK3.out⟩
                · have hE3 := HE3.out q3
                  have HR3 : Aside0 (Row _ g n cap (A ++ (mg kz X Y ++ B))) := ⟨by rw [hE3]; exact H2R.out⟩
                  clear hE3
                  by_cases q4 : mid < e
                  · have d5 : decide ((mid : Int) < (e : Int)) = true := decide_eq_true (by omega)
                    have d6 : decide ((e : Int) < (b : Int)) = false := decide_eq_false (by omega)
                    go_wp2_with fail
                    all_goals exact bodyPost_end (v := .tuple #[]) (by simp [results, Try.results47, go_sem]) rfl ⟨rfl, HR3.out, H2K.out⟩
                  · have d5 : decide ((mid : Int) < (e : Int)) = false := decide_eq_false (by omega)
                    go_wp2_with fail
                    all_goals exact bodyPost_end (v := .tuple #[]) (by simp [results, Try.results47, go_sem]) rfl ⟨rfl, HR3.out, H2K.out⟩
              · have d3 : decide ((a : Int) < (s : Int)) = false := decide_eq_false (by omega)
                by_cases q3 : mid < e ∧ e < b
                · have d5 : decide ((mid : Int) < (e : Int)) = true := decide_eq_true (by omega)
                  have d6 : decide ((e : Int) < (b : Int)) = true := decide_eq_true (by omega)
                  go_wp2_with fail
                  all_goals have hc3 := HC3.out _ H2R.out q3
                  all_goals unfold fv at hc3
                  all_goals refine hc3.mono ?_
                  all_goals rintro e3 w3 ⟨rfl, hR3, hK3⟩
                  all_goals have HR3 := Aside0.mk hR3
                  all_goals have HK3 := Aside0.mk (H2K.out.trans hK3)
                  all_goals clear hR3 hK3 hc3
                  all_goals go_wp2_with fail
                  all_goals exact bodyPost_end (v := .tuple #[]) (by simp [results, Try.results47, go_sem]) rfl ⟨rfl, HR3.out, HK3.out⟩
                · have hE3 := HE3.out q3
                  have HR3 : Aside0 (Row _ g n cap (A ++ (mg kz X Y ++ B))) := ⟨by rw [hE3]; exact H2R.out⟩
                  clear hE3
                  by_cases q4 : mid < e
                  · have d5 : decide ((mid : Int) < (e : Int)) = true := decide_eq_true (by omega)
                    have d6 : decide ((e : Int) < (b : Int)) = false := decide_eq_false (by omega)
                    go_wp2_with fail
                    all_goals exact bodyPost_end (v := .tuple #[]) (by simp [results, Try.results47, go_sem]) rfl ⟨rfl, HR3.out, H2K.out⟩
                  · have d5 : decide ((mid : Int) < (e : Int)) = false := decide_eq_false (by omega)
                    go_wp2_with fail
                    all_goals exact bodyPost_end (v := .tuple #[]) (by simp [results, Try.results47, go_sem]) rfl ⟨rfl, HR3.out, H2K.out⟩
  · obtain ⟨s0, hs0⟩ : ∃ s0, a = s0 := ⟨_, rfl⟩
    obtain ⟨r0, hr0⟩ : ∃ r0, m = r0 := ⟨_, rfl⟩
    have hd0 : decide ((mid : Int) < (m : Int)) = false := decide_eq_false (by omega)
    have hd1 : (m : Int) ≤ (mid : Int) := by omega
    have hd2 : mid < n := by have := MID.out; omega
    have HC : Aside0 ((m > mid ∧ s0 + b = mid + m ∧ r0 = mid) ∨ (m ≤ mid ∧ s0 = a ∧ r0 = m)) := ⟨.inr ⟨by omega, hs0.symm, hr0.symm⟩⟩
    have HS0 : Aside0 (a ≤ s0 ∧ s0 ≤ r0 ∧ r0 ≤ m ∧ r0 ≤ mid) := ⟨by omega⟩
    have HS1 := Aside0.mk hs0
    have HRR := Aside0.mk hr0
    unfold fv
    clear hcase hs0 hr0
    go_enter Try.func47, Try.ntmps47
    go_wp2_with fail
    rw [show ∀ (inst : Decidable (mid < m)), @decide (mid < m) inst = false from fun inst => decide_eq_false (by omega)]
    clear w0 w00 w01 w02 w1 h8 w2 w4 hd0 hd1 hd2
    go_loopw [20, 21] (fun v10 v11 wr => ∃ s r : Nat, s0 ≤ s ∧ s ≤ r ∧ r ≤ r0 ∧ v10 = .int .i64 s ∧ v11 = .int .i64 r ∧ Aside0 (∀ c, s0 ≤ c → c < s → kz (X.getD (c - a) 0) ≤ kz (Y.getD (mid - 1 - c) 0)) ∧ Aside0 (∀ c, r ≤ c → c < r0 → kz (Y.getD (mid - 1 - c) 0) < kz (X.getD (c - a) 0)) ∧ Aside0 (Row wr g n cap (A ++ (X ++ (Y ++ B)))) ∧ Aside0 (Kp g w wr)) (fun v10 v11 _ => (intOf v11).toNat - (intOf v10).toNat)
    case atStart => exact ⟨s0, r0, Nat.le_refl _, HS0.out.2.1, Nat.le_refl _, by rw [HS1.out], by rw [HRR.out], ⟨fun c h1 h2 => by omega⟩, ⟨fun c h1 h2 => by omega⟩, HR, ⟨Kp.refl g w⟩⟩
    case round =>
      clear HR
      obtain ⟨s, r, h1, h2, h3, rfl, rfl, HI, HJ, HRr, HKr⟩ := hrel
      by_cases hij : s < r
      · have w1 := half_wrap s r (by have := HS0.out; omega)
        obtain ⟨sr, hs⟩ : ∃ sr, s + r = sr := ⟨_, rfl⟩
        rw [hs] at w1
        obtain ⟨c, hhe⟩ : ∃ c, sr / 2 = c := ⟨_, rfl⟩
        have h8 : (sr : Int) / 2 = (c : Int) := by omega
        have b1 : s0 ≤ c ∧ s ≤ c ∧ c < r := by omega
        have HB1 := Aside0.mk b1
        have hcn : (c : Int) < (n : Int) := by have := HS0.out; omega
        have w3 : IntKind.i64.wrap ((pp : Int) - (c : Int)) = ((pp - c : Nat) : Int) := by have := HS0.out; have := NN.out; have := PP.out; have := MID.out; rw [IntWalk.i64_in _ (by omega)]; omega
        obtain ⟨q, hq⟩ : ∃ q, pp - c = q := ⟨_, rfl⟩
        rw [hq] at w3
        have hqe : q = m + (mid - 1 - c) ∧ mid - 1 - c < Y.length := by have := HS0.out; have := NN.out; have := PP.out; have := HB.out; have := HC.out; have := MID.out; omega
        have hqn : (q : Int) < (n : Int) := by have := HB.out; omega
        have HQE := Aside0.mk hqe
        have hcX : c - a < X.length := by have := HS0.out; have := HM.out; omega
        clear hs hhe b1 hq hqe
        obtain ⟨u, hu⟩ : ∃ u, X.getD (c - a) 0 = u := ⟨_, rfl⟩
        obtain ⟨v, hv⟩ : ∃ v, Y.getD (mid - 1 - c) 0 = v := ⟨_, rfl⟩
        have hlen : (A ++ (X ++ (Y ++ B))).length = n := HRr.out.len.symm
        have c1 := (HRr.out.at c (by rw [hlen]; omega)).1
        have c2 := (HRr.out.at q (by rw [hlen]; omega)).1
        have e1 : (A ++ (X ++ (Y ++ B))).getD c 0 = u := by
          rw [show c = A.length + (c - a) by have := HB1.out; have := HA.out; have := HS0.out; omega, getD_app, getD_left _ _ _ hcX, hu]
        have e2 : (A ++ (X ++ (Y ++ B))).getD q 0 = v := by
          rw [← List.append_assoc, show q = (A ++ X).length + (mid - 1 - c) by rw [List.length_append]; have := HQE.out; have := HA.out; have := HM.out; omega, getD_app, getD_left _ _ _ HQE.out.2, hv]
        rw [e1] at c1
        rw [e2] at c2
        have huw : 0 ≤ u ∧ u < 2 ^ 64 := by rw [← hu]; exact WX.out _ (getD_mem X (c - a) hcX)
        have hvw : 0 ≤ v ∧ v < 2 ^ 64 := by rw [← hv]; exact WY.out _ (getD_mem Y _ HQE.out.2)
        have HU := Aside0.mk hu
        have HV := Aside0.mk hv
        have HCX := Aside0.mk hcX
        clear hu hv e1 e2 hlen hcX
        have hS : ∀ w', Below wr.heap.size wr w' → w'.cell? ⟨g, c, none⟩ = some (.int .u64 u) ∧ w'.cell? ⟨g, q, none⟩ = some (.int .u64 v) := fun w' hb => ⟨pw_cell_below hb c1, pw_cell_below hb c2⟩
        clear c1 c2
        by_cases hc : kz v < kz u
        · have d1 : decide (cz v u < 0) = true := decide_eq_true ((cz_lt v u).2 hc)
          go_wp2_with fail
          go_region_held3 (fun w' => w'.cell? ⟨g, c, none⟩ = some (.int .u64 u) ∧ w'.cell? ⟨g, q, none⟩ = some (.int .u64 v))
            (first | exact hS _ (below_drew (Below.refl _ _)) | exact hS _ (pw_below_drewN (Below.refl _ _) _))
            (first | (go_at_call 29; refine (cl_calls v u hvw huw _).mono ?_; rintro e w2 ⟨rfl, z, rfl⟩))
          rename_i hHeld_
          clear hHeld_ hS
          have HR2 := Aside0.mk (HRr.out.drewN (1 + z))
          have HK2 := Aside0.mk (HKr.out.drewN (1 + z))
          have HJ2 : Aside0 (∀ c', c ≤ c' → c' < r0 → kz (Y.getD (mid - 1 - c') 0) < kz (X.getD (c' - a) 0)) := ⟨fun c' p1 p2 => by
            have g1 := sd_get SX.out (c - a) (c' - a) (by have := HS0.out; have := HM.out; omega) (by omega)
            have g2 := sd_get SY.out (mid - 1 - c') (mid - 1 - c) HQE.out.2 (by omega)
            rw [HU.out] at g1
            rw [HV.out] at g2
            omega⟩
          clear HRr HKr HJ
          generalize wr.drewN (1 + z) = wq at HR2 HK2 ⊢
          go_wp2_with fail
          go_roundw
          case rel => exact ⟨s, c, h1, by have := HB1.out; omega, by have := HB1.out; omega, rfl, by go_num, HI, HJ2, HR2, HK2⟩
          case measure => have := HB1.out; simp [intOf]; omega
        · have d1 : decide (cz v u < 0) = false := decide_eq_false (fun q => hc ((cz_lt v u).1 q))
          have hw2 : IntKind.i64.wrap ((c : Int) + 1) = ((c + 1 : Nat) : Int) := by rw [IntWalk.i64_in _ (by omega)]; omega
          go_wp2_with fail
          go_region_held3 (fun w' => w'.cell? ⟨g, c, none⟩ = some (.int .u64 u) ∧ w'.cell? ⟨g, q, none⟩ = some (.int .u64 v))
            (first | exact hS _ (below_drew (Below.refl _ _)) | exact hS _ (pw_below_drewN (Below.refl _ _) _))
            (first | (go_at_call 29; refine (cl_calls v u hvw huw _).mono ?_; rintro e w2 ⟨rfl, z, rfl⟩))
          rename_i hHeld_
          clear hHeld_ hS
          have HR2 := Aside0.mk (HRr.out.drewN (1 + z))
          have HK2 := Aside0.mk (HKr.out.drewN (1 + z))
          have HI2 : Aside0 (∀ c', s0 ≤ c' → c' < c + 1 → kz (X.getD (c' - a) 0) ≤ kz (Y.getD (mid - 1 - c') 0)) := ⟨fun c' p1 p2 => by
            have hy : mid - 1 - c' < Y.length := by have := HS0.out; have := HB.out; have := HC.out; have := MID.out; omega
            have g1 := sd_get SX.out (c' - a) (c - a) HCX.out (by omega)
            have g2 := sd_get SY.out (mid - 1 - c) (mid - 1 - c') hy (by omega)
            rw [HU.out] at g1
            rw [HV.out] at g2
            omega⟩
          clear HRr HKr HI
          generalize wr.drewN (1 + z) = wq at HR2 HK2 ⊢
          go_wp2_with fail
          go_roundw
          case rel => exact ⟨c + 1, r, by have := HB1.out; omega, by have := HB1.out; omega, h3, by go_num, rfl, HI2, HJ, HR2, HK2⟩
          case measure => have := HB1.out; simp [intOf]; omega
      · have hij2 : s = r := by omega
        subst hij2
        have hsb : a ≤ s ∧ s ≤ m ∧ s ≤ mid := by have := HS0.out; omega
        obtain ⟨f1, f2⟩ := split_facts X Y SX.out SY.out a m b mid s s0 r0 HM.out HB.out ⟨h1, h3⟩ HS0.out.1 ⟨MID.out.1, MID.out.2.1, by have := MID.out; omega⟩ HC.out HI.out HJ.out
        have w5 : IntKind.i64.wrap ((nn : Int) - (s : Int)) = ((nn - s : Nat) : Int) := by have := NN.out; have := MID.out; rw [IntWalk.i64_in _ (by omega)]; omega
        obtain ⟨e, he⟩ : ∃ e, nn - s = e := ⟨_, rfl⟩
        rw [he] at w5
        have hel : e = m + (mid - s) ∧ mid - s ≤ Y.length := by have := NN.out; have := HB.out; have := HC.out; have := MID.out; omega
        have lx1 : (X.take (s - a)).length = s - a := by rw [List.length_take]; have := HM.out; omega
        have lx2 : (X.drop (s - a)).length = m - s := by rw [List.length_drop]; have := HM.out; omega
        have ly1 : (Y.take (mid - s)).length = mid - s := by rw [List.length_take]; omega
        have ly2 : (Y.drop (mid - s)).length = b - e := by rw [List.length_drop]; have := HB.out; omega
        have ht := tail_facts N ih g n cap A X Y B (X.take (s - a)) (X.drop (s - a)) (Y.take (mid - s)) (Y.drop (mid - s)) a m b mid s e hn (List.take_append_drop _ _).symm (List.take_append_drop _ _).symm SX.out SY.out WX.out WY.out HA.out (by omega) (by omega) (by omega) (by omega) (by have := HB.out; omega) (by have := MID.out; omega) f1 f2
        have hRs : Row wr g n cap (A ++ (X.take (s - a) ++ (X.drop (s - a) ++ (Y.take (mid - s) ++ (Y.drop (mid - s) ++ B))))) := by
          have e1 : A ++ (X.take (s - a) ++ (X.drop (s - a) ++ (Y.take (mid - s) ++ (Y.drop (mid - s) ++ B)))) = A ++ (X ++ (Y ++ B)) := by
            rw [← List.append_assoc (X.take (s - a)), List.take_append_drop, ← List.append_assoc (Y.take (mid - s)), List.take_append_drop]
          rw [e1]; exact HRr.out
        clear HRr lx1 lx2 ly1 ly2 f1 f2 HI HJ he h1 h2 h3 hel hij
        have HRr := Aside0.mk hRs
        clear hRs
        generalize X.take (s - a) = X1 at ht HRr
        generalize X.drop (s - a) = X2 at ht HRr
        generalize Y.take (mid - s) = Y1 at ht HRr
        generalize Y.drop (mid - s) = Y2 at ht HRr
        have HC1 := Aside0.mk ht.c1
        have HC2 := Aside0.mk ht.c2
        have HC3 := Aside0.mk ht.c3
        have HE1 := Aside0.mk ht.e1
        have HE2 := Aside0.mk ht.e2
        have HE3 := Aside0.mk ht.e3
        clear ht
        by_cases q1 : s < m ∧ m < e
        · have d1 : decide ((s : Int) < (m : Int)) = true := decide_eq_true (by omega)
          have d2 : decide ((m : Int) < (e : Int)) = true := decide_eq_true (by omega)
          go_wp2_with fail
          have hc1 := HC1.out _ HRr.out q1
          unfold fv at hc1
          refine hc1.mono ?_
          rintro e1 w1 ⟨rfl, hR1, hK1⟩
          have H1R := Aside0.mk hR1
          have H1K := Aside0.mk (HKr.out.trans hK1)
          clear hR1 hK1 hc1 d1 d2 HRr HKr
          by_cases q2 : a < s ∧ s < mid
          · have d3 : decide ((a : Int) < (s : Int)) = true := decide_eq_true (by omega)
            have d4 : decide ((s : Int) < (mid : Int)) = true := decide_eq_true (by omega)
            go_wp2_with fail
            have hc2 := HC2.out _ H1R.out q2
            unfold fv at hc2
            refine hc2.mono ?_
            rintro e2 w2 ⟨rfl, hR2, hK2⟩
            have H2R := Aside0.mk hR2
            have H2K := Aside0.mk (H1K.out.trans hK2)
            clear hR2 hK2 hc2 d3 d4 H1R H1K
            by_cases q3 : mid < e ∧ e < b
            · have d5 : decide ((mid : Int) < (e : Int)) = true := decide_eq_true (by omega)
              have d6 : decide ((e : Int) < (b : Int)) = true := decide_eq_true (by omega)
              go_wp2_with fail
              all_goals have hc3 := HC3.out _ H2R.out q3
              all_goals unfold fv at hc3
              all_goals refine hc3.mono ?_
              all_goals rintro e3 w3 ⟨rfl, hR3, hK3⟩
              all_goals have HR3 := Aside0.mk hR3
              all_goals have HK3 := Aside0.mk (H2K.out.trans hK3)
              all_goals clear hR3 hK3 hc3
              all_goals go_wp2_with fail
              all_goals exact bodyPost_end (v := .tuple #[]) (by simp [results, Try.results47, go_sem]) rfl ⟨rfl, HR3.out, HK3.out⟩
            · have hE3 := HE3.out q3
              have HR3 : Aside0 (Row _ g n cap (A ++ (mg kz X Y ++ B))) := ⟨by rw [hE3]; exact H2R.out⟩
              clear hE3
              by_cases q4 : mid < e
              · have d5 : decide ((mid : Int) < (e : Int)) = true := decide_eq_true (by omega)
                have d6 : decide ((e : Int) < (b : Int)) = false := decide_eq_false (by omega)
                go_wp2_with fail
                all_goals exact bodyPost_end (v := .tuple #[]) (by simp [results, Try.results47, go_sem]) rfl ⟨rfl, HR3.out, H2K.out⟩
              · have d5 : decide ((mid : Int) < (e : Int)) = false := decide_eq_false (by omega)
                go_wp2_with fail
                all_goals exact bodyPost_end (v := .tuple #[]) (by simp [results, Try.results47, go_sem]) rfl ⟨rfl, HR3.out, H2K.out⟩
          · have hE2 := HE2.out q2
            have H2R : Aside0 (Row _ g n cap (A ++ (mg kz X1 Y1 ++ (X2 ++ (Y2 ++ B))))) := ⟨by rw [hE2]; exact H1R.out⟩
            have H2K := H1K
            clear hE2 H1R H1K
            by_cases q5 : a < s
            · have d3 : decide ((a : Int) < (s : Int)) = true := decide_eq_true (by omega)
              have d4 : decide ((s : Int) < (mid : Int)) = false := decide_eq_false (by omega)
              by_cases q3 : mid < e ∧ e < b
              · have d5 : decide ((mid : Int) < (e : Int)) = true := decide_eq_true (by omega)
                have d6 : decide ((e : Int) < (b : Int)) = true := decide_eq_true (by omega)
                go_wp2_with fail
                all_goals have hc3 := HC3.out _ H2R.out q3
                all_goals unfold fv at hc3
                all_goals refine hc3.mono ?_
                all_goals rintro e3 w3 ⟨rfl, hR3, hK3⟩
                all_goals have HR3 := Aside0.mk hR3
                all_goals have HK3 := Aside0.mk (H2K.out.trans hK3)
                all_goals clear hR3 hK3 hc3
                all_goals go_wp2_with fail
                all_goals exact bodyPost_end (v := .tuple #[]) (by simp [results, Try.results47, go_sem]) rfl ⟨rfl, HR3.out, HK3.out⟩
              · have hE3 := HE3.out q3
                have HR3 : Aside0 (Row _ g n cap (A ++ (mg kz X Y ++ B))) := ⟨by rw [hE3]; exact H2R.out⟩
                clear hE3
                by_cases q4 : mid < e
                · have d5 : decide ((mid : Int) < (e : Int)) = true := decide_eq_true (by omega)
                  have d6 : decide ((e : Int) < (b : Int)) = false := decide_eq_false (by omega)
                  go_wp2_with fail
                  all_goals exact bodyPost_end (v := .tuple #[]) (by simp [results, Try.results47, go_sem]) rfl ⟨rfl, HR3.out, H2K.out⟩
                · have d5 : decide ((mid : Int) < (e : Int)) = false := decide_eq_false (by omega)
                  go_wp2_with fail
                  all_goals exact bodyPost_end (v := .tuple #[]) (by simp [results, Try.results47, go_sem]) rfl ⟨rfl, HR3.out, H2K.out⟩
            · have d3 : decide ((a : Int) < (s : Int)) = false := decide_eq_false (by omega)
              by_cases q3 : mid < e ∧ e < b
              · have d5 : decide ((mid : Int) < (e : Int)) = true := decide_eq_true (by omega)
                have d6 : decide ((e : Int) < (b : Int)) = true := decide_eq_true (by omega)
                go_wp2_with fail
                all_goals have hc3 := HC3.out _ H2R.out q3
                all_goals unfold fv at hc3
                all_goals refine hc3.mono ?_
                all_goals rintro e3 w3 ⟨rfl, hR3, hK3⟩
                all_goals have HR3 := Aside0.mk hR3
                all_goals have HK3 := Aside0.mk (H2K.out.trans hK3)
                all_goals clear hR3 hK3 hc3
                all_goals go_wp2_with fail
                all_goals exact bodyPost_end (v := .tuple #[]) (by simp [results, Try.results47, go_sem]) rfl ⟨rfl, HR3.out, HK3.out⟩
              · have hE3 := HE3.out q3
                have HR3 : Aside0 (Row _ g n cap (A ++ (mg kz X Y ++ B))) := ⟨by rw [hE3]; exact H2R.out⟩
                clear hE3
                by_cases q4 : mid < e
                · have d5 : decide ((mid : Int) < (e : Int)) = true := decide_eq_true (by omega)
                  have d6 : decide ((e : Int) < (b : Int)) = false := decide_eq_false (by omega)
                  go_wp2_with fail
                  all_goals exact bodyPost_end (v := .tuple #[]) (by simp [results, Try.results47, go_sem]) rfl ⟨rfl, HR3.out, H2K.out⟩
                · have d5 : decide ((mid : Int) < (e : Int)) = false := decide_eq_false (by omega)
                  go_wp2_with fail
                  all_goals exact bodyPost_end (v := .tuple #[]) (by simp [results, Try.results47, go_sem]) rfl ⟨rfl, HR3.out, H2K.out⟩
        · have hE1 := HE1.out q1
          have H1R : Aside0 (Row _ g n cap (A ++ (X1 ++ (Y1 ++ (X2 ++ (Y2 ++ B)))))) := ⟨by rw [hE1]; exact HRr.out⟩
          have H1K := HKr
          clear hE1 HRr HKr
          by_cases q6 : s < m
          · have d1 : decide ((s : Int) < (m : Int)) = true := decide_eq_true (by omega)
            have d2 : decide ((m : Int) < (e : Int)) = false := decide_eq_false (by omega)
            by_cases q2 : a < s ∧ s < mid
            · have d3 : decide ((a : Int) < (s : Int)) = true := decide_eq_true (by omega)
              have d4 : decide ((s : Int) < (mid : Int)) = true := decide_eq_true (by omega)
              go_wp2_with fail
              have hc2 := HC2.out _ H1R.out q2
              unfold fv at hc2
              refine hc2.mono ?_
              rintro e2 w2 ⟨rfl, hR2, hK2⟩
              have H2R := Aside0.mk hR2
              have H2K := Aside0.mk (H1K.out.trans hK2)
              clear hR2 hK2 hc2 d3 d4 H1R H1K
              by_cases q3 : mid < e ∧ e < b
              · have d5 : decide ((mid : Int) < (e : Int)) = true := decide_eq_true (by omega)
                have d6 : decide ((e : Int) < (b : Int)) = true := decide_eq_true (by omega)
                go_wp2_with fail
                all_goals have hc3 := HC3.out _ H2R.out q3
                all_goals unfold fv at hc3
                all_goals refine hc3.mono ?_
                all_goals rintro e3 w3 ⟨rfl, hR3, hK3⟩
                all_goals have HR3 := Aside0.mk hR3
                all_goals have HK3 := Aside0.mk (H2K.out.trans hK3)
                all_goals clear hR3 hK3 hc3
                all_goals go_wp2_with fail
                all_goals exact bodyPost_end (v := .tuple #[]) (by simp [results, Try.results47, go_sem]) rfl ⟨rfl, HR3.out, HK3.out⟩
              · have hE3 := HE3.out q3
                have HR3 : Aside0 (Row _ g n cap (A ++ (mg kz X Y ++ B))) := ⟨by rw [hE3]; exact H2R.out⟩
                clear hE3
                by_cases q4 : mid < e
                · have d5 : decide ((mid : Int) < (e : Int)) = true := decide_eq_true (by omega)
                  have d6 : decide ((e : Int) < (b : Int)) = false := decide_eq_false (by omega)
                  go_wp2_with fail
                  all_goals exact bodyPost_end (v := .tuple #[]) (by simp [results, Try.results47, go_sem]) rfl ⟨rfl, HR3.out, H2K.out⟩
                · have d5 : decide ((mid : Int) < (e : Int)) = false := decide_eq_false (by omega)
                  go_wp2_with fail
                  all_goals exact bodyPost_end (v := .tuple #[]) (by simp [results, Try.results47, go_sem]) rfl ⟨rfl, HR3.out, H2K.out⟩
            · have hE2 := HE2.out q2
              have H2R : Aside0 (Row _ g n cap (A ++ (mg kz X1 Y1 ++ (X2 ++ (Y2 ++ B))))) := ⟨by rw [hE2]; exact H1R.out⟩
              have H2K := H1K
              clear hE2 H1R H1K
              by_cases q5 : a < s
              · have d3 : decide ((a : Int) < (s : Int)) = true := decide_eq_true (by omega)
                have d4 : decide ((s : Int) < (mid : Int)) = false := decide_eq_false (by omega)
                by_cases q3 : mid < e ∧ e < b
                · have d5 : decide ((mid : Int) < (e : Int)) = true := decide_eq_true (by omega)
                  have d6 : decide ((e : Int) < (b : Int)) = true := decide_eq_true (by omega)
                  go_wp2_with fail
                  all_goals have hc3 := HC3.out _ H2R.out q3
                  all_goals unfold fv at hc3
                  all_goals refine hc3.mono ?_
                  all_goals rintro e3 w3 ⟨rfl, hR3, hK3⟩
                  all_goals have HR3 := Aside0.mk hR3
                  all_goals have HK3 := Aside0.mk (H2K.out.trans hK3)
                  all_goals clear hR3 hK3 hc3
                  all_goals go_wp2_with fail
                  all_goals exact bodyPost_end (v := .tuple #[]) (by simp [results, Try.results47, go_sem]) rfl ⟨rfl, HR3.out, HK3.out⟩
                · have hE3 := HE3.out q3
                  have HR3 : Aside0 (Row _ g n cap (A ++ (mg kz X Y ++ B))) := ⟨by rw [hE3]; exact H2R.out⟩
                  clear hE3
                  by_cases q4 : mid < e
                  · have d5 : decide ((mid : Int) < (e : Int)) = true := decide_eq_true (by omega)
                    have d6 : decide ((e : Int) < (b : Int)) = false := decide_eq_false (by omega)
                    go_wp2_with fail
                    all_goals exact bodyPost_end (v := .tuple #[]) (by simp [results, Try.results47, go_sem]) rfl ⟨rfl, HR3.out, H2K.out⟩
                  · have d5 : decide ((mid : Int) < (e : Int)) = false := decide_eq_false (by omega)
                    go_wp2_with fail
                    all_goals exact bodyPost_end (v := .tuple #[]) (by simp [results, Try.results47, go_sem]) rfl ⟨rfl, HR3.out, H2K.out⟩
              · have d3 : decide ((a : Int) < (s : Int)) = false := decide_eq_false (by omega)
                by_cases q3 : mid < e ∧ e < b
                · have d5 : decide ((mid : Int) < (e : Int)) = true := decide_eq_true (by omega)
                  have d6 : decide ((e : Int) < (b : Int)) = true := decide_eq_true (by omega)
                  go_wp2_with fail
                  all_goals have hc3 := HC3.out _ H2R.out q3
                  all_goals unfold fv at hc3
                  all_goals refine hc3.mono ?_
                  all_goals rintro e3 w3 ⟨rfl, hR3, hK3⟩
                  all_goals have HR3 := Aside0.mk hR3
                  all_goals have HK3 := Aside0.mk (H2K.out.trans hK3)
                  all_goals clear hR3 hK3 hc3
                  all_goals go_wp2_with fail
                  all_goals exact bodyPost_end (v := .tuple #[]) (by simp [results, Try.results47, go_sem]) rfl ⟨rfl, HR3.out, HK3.out⟩
                · have hE3 := HE3.out q3
                  have HR3 : Aside0 (Row _ g n cap (A ++ (mg kz X Y ++ B))) := ⟨by rw [hE3]; exact H2R.out⟩
                  clear hE3
                  by_cases q4 : mid < e
                  · have d5 : decide ((mid : Int) < (e : Int)) = true := decide_eq_true (by omega)
                    have d6 : decide ((e : Int) < (b : Int)) = false := decide_eq_false (by omega)
                    go_wp2_with fail
                    all_goals exact bodyPost_end (v := .tuple #[]) (by simp [results, Try.results47, go_sem]) rfl ⟨rfl, HR3.out, H2K.out⟩
                  · have d5 : decide ((mid : Int) < (e : Int)) = false := decide_eq_false (by omega)
                    go_wp2_with fail
                    all_goals exact bodyPost_end (v := .tuple #[]) (by simp [results, Try.results47, go_sem]) rfl ⟨rfl, HR3.out, H2K.out⟩
          · have d1 : decide ((s : Int) < (m : Int)) = false := decide_eq_false (by omega)
            by_cases q2 : a < s ∧ s < mid
            · have d3 : decide ((a : Int) < (s : Int)) = true := decide_eq_true (by omega)
              have d4 : decide ((s : Int) < (mid : Int)) = true := decide_eq_true (by omega)
              go_wp2_with fail
              have hc2 := HC2.out _ H1R.out q2
              unfold fv at hc2
              refine hc2.mono ?_
              rintro e2 w2 ⟨rfl, hR2, hK2⟩
              have H2R := Aside0.mk hR2
              have H2K := Aside0.mk (H1K.out.trans hK2)
              clear hR2 hK2 hc2 d3 d4 H1R H1K
              by_cases q3 : mid < e ∧ e < b
              · have d5 : decide ((mid : Int) < (e : Int)) = true := decide_eq_true (by omega)
                have d6 : decide ((e : Int) < (b : Int)) = true := decide_eq_true (by omega)
                go_wp2_with fail
                all_goals have hc3 := HC3.out _ H2R.out q3
                all_goals unfold fv at hc3
                all_goals refine hc3.mono ?_
                all_goals rintro e3 w3 ⟨rfl, hR3, hK3⟩
                all_goals have HR3 := Aside0.mk hR3
                all_goals have HK3 := Aside0.mk (H2K.out.trans hK3)
                all_goals clear hR3 hK3 hc3
                all_goals go_wp2_with fail
                all_goals exact bodyPost_end (v := .tuple #[]) (by simp [results, Try.results47, go_sem]) rfl ⟨rfl, HR3.out, HK3.out⟩
              · have hE3 := HE3.out q3
                have HR3 : Aside0 (Row _ g n cap (A ++ (mg kz X Y ++ B))) := ⟨by rw [hE3]; exact H2R.out⟩
                clear hE3
                by_cases q4 : mid < e
                · have d5 : decide ((mid : Int) < (e : Int)) = true := decide_eq_true (by omega)
                  have d6 : decide ((e : Int) < (b : Int)) = false := decide_eq_false (by omega)
                  go_wp2_with fail
                  all_goals exact bodyPost_end (v := .tuple #[]) (by simp [results, Try.results47, go_sem]) rfl ⟨rfl, HR3.out, H2K.out⟩
                · have d5 : decide ((mid : Int) < (e : Int)) = false := decide_eq_false (by omega)
                  go_wp2_with fail
                  all_goals exact bodyPost_end (v := .tuple #[]) (by simp [results, Try.results47, go_sem]) rfl ⟨rfl, HR3.out, H2K.out⟩
            · have hE2 := HE2.out q2
              have H2R : Aside0 (Row _ g n cap (A ++ (mg kz X1 Y1 ++ (X2 ++ (Y2 ++ B))))) := ⟨by rw [hE2]; exact H1R.out⟩
              have H2K := H1K
              clear hE2 H1R H1K
              by_cases q5 : a < s
              · have d3 : decide ((a : Int) < (s : Int)) = true := decide_eq_true (by omega)
                have d4 : decide ((s : Int) < (mid : Int)) = false := decide_eq_false (by omega)
                by_cases q3 : mid < e ∧ e < b
                · have d5 : decide ((mid : Int) < (e : Int)) = true := decide_eq_true (by omega)
                  have d6 : decide ((e : Int) < (b : Int)) = true := decide_eq_true (by omega)
                  go_wp2_with fail
                  all_goals have hc3 := HC3.out _ H2R.out q3
                  all_goals unfold fv at hc3
                  all_goals refine hc3.mono ?_
                  all_goals rintro e3 w3 ⟨rfl, hR3, hK3⟩
                  all_goals have HR3 := Aside0.mk hR3
                  all_goals have HK3 := Aside0.mk (H2K.out.trans hK3)
                  all_goals clear hR3 hK3 hc3
                  all_goals go_wp2_with fail
                  all_goals exact bodyPost_end (v := .tuple #[]) (by simp [results, Try.results47, go_sem]) rfl ⟨rfl, HR3.out, HK3.out⟩
                · have hE3 := HE3.out q3
                  have HR3 : Aside0 (Row _ g n cap (A ++ (mg kz X Y ++ B))) := ⟨by rw [hE3]; exact H2R.out⟩
                  clear hE3
                  by_cases q4 : mid < e
                  · have d5 : decide ((mid : Int) < (e : Int)) = true := decide_eq_true (by omega)
                    have d6 : decide ((e : Int) < (b : Int)) = false := decide_eq_false (by omega)
                    go_wp2_with fail
                    all_goals exact bodyPost_end (v := .tuple #[]) (by simp [results, Try.results47, go_sem]) rfl ⟨rfl, HR3.out, H2K.out⟩
                  · have d5 : decide ((mid : Int) < (e : Int)) = false := decide_eq_false (by omega)
                    go_wp2_with fail
                    all_goals exact bodyPost_end (v := .tuple #[]) (by simp [results, Try.results47, go_sem]) rfl ⟨rfl, HR3.out, H2K.out⟩
              · have d3 : decide ((a : Int) < (s : Int)) = false := decide_eq_false (by omega)
                by_cases q3 : mid < e ∧ e < b
                · have d5 : decide ((mid : Int) < (e : Int)) = true := decide_eq_true (by omega)
                  have d6 : decide ((e : Int) < (b : Int)) = true := decide_eq_true (by omega)
                  go_wp2_with fail
                  all_goals have hc3 := HC3.out _ H2R.out q3
                  all_goals unfold fv at hc3
                  all_goals refine hc3.mono ?_
                  all_goals rintro e3 w3 ⟨rfl, hR3, hK3⟩
                  all_goals have HR3 := Aside0.mk hR3
                  all_goals have HK3 := Aside0.mk (H2K.out.trans hK3)
                  all_goals clear hR3 hK3 hc3
                  all_goals go_wp2_with fail
                  all_goals exact bodyPost_end (v := .tuple #[]) (by simp [results, Try.results47, go_sem]) rfl ⟨rfl, HR3.out, HK3.out⟩
                · have hE3 := HE3.out q3
                  have HR3 : Aside0 (Row _ g n cap (A ++ (mg kz X Y ++ B))) := ⟨by rw [hE3]; exact H2R.out⟩
                  clear hE3
                  by_cases q4 : mid < e
                  · have d5 : decide ((mid : Int) < (e : Int)) = true := decide_eq_true (by omega)
                    have d6 : decide ((e : Int) < (b : Int)) = false := decide_eq_false (by omega)
                    go_wp2_with fail
                    all_goals exact bodyPost_end (v := .tuple #[]) (by simp [results, Try.results47, go_sem]) rfl ⟨rfl, HR3.out, H2K.out⟩
                  · have d5 : decide ((mid : Int) < (e : Int)) = false := decide_eq_false (by omega)
                    go_wp2_with fail
                    all_goals exact bodyPost_end (v := .tuple #[]) (by simp [results, Try.results47, go_sem]) rfl ⟨rfl, HR3.out, H2K.out⟩
end Go.Proofs.Ytlobedghenflfaa.P
