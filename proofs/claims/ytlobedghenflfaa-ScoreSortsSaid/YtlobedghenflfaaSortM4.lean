/- Sorting: the insertion sort of a part, and the merge as a whole. No condition but each theorem's own. -/
import Derived.Test.YtlobedghenflfaaSortM3
namespace Go.Proofs.Ytlobedghenflfaa.P
open Go.RowKit Go.Proofs.YtlobedghenflfaaW.PrintWords Go.Proofs.YtlobedghenflfaaW.PrintLast Go.Proofs.YtlobedghenflfaaW.PrintMore Go.Proofs.Ytlobedghenflfaa.S
set_option linter.unusedVariables false
set_option linter.unusedSimpArgs false
theorem one_of (l : List Int) (h : l.length = 1) : ∃ x, l = [x] := by
  cases l with
  | nil => cases h
  | cons x l =>
    cases l with
    | nil => exact ⟨x, rfl⟩
    | cons y l => simp at h
theorem symMerge_calls : ∀ N, MergesAt N := by
  intro N
  induction N with
  | zero =>
    intro g n cap A X Y B a m b w hN hn h wX wY ha hm hb lX lY sX sY
    omega
  | succ N ih =>
    intro g n cap A X Y B a m b w hN hn h wX wY ha hm hb lX lY sX sY
    by_cases h1 : X.length = 1
    · obtain ⟨x, rfl⟩ := one_of X h1
      exact symMerge_one g n cap A Y B x a m b w h (wX x (by simp)) wY ha (by simpa using hm) hb sY hn
    · by_cases h2 : Y.length = 1
      · obtain ⟨y, rfl⟩ := one_of Y h2
        exact symMerge_last g n cap A X B y a m b w h (wY y (by simp)) wX ha hm (by simpa using hb) sX h1 hn
      · exact symMerge_rec N ih g n cap A X Y B a m b w hN hn h wX wY ha hm hb (by omega) (by omega) sX sY
set_option maxHeartbeats 8000000 in
set_option maxRecDepth 100000 in
theorem insertion_calls (g n cap : Nat) (A X B : List Int) (a b : Nat) (w : World) (h : Row w g n cap (A ++ (X ++ B))) (hW : Wd X) (ha : a = A.length) (hb : b = a + X.length) (hn : n ≤ 4611686018427387904) :
    Calls Try.prog 46 #[.slice (some ⟨g, 0, none⟩) n cap, .int .i64 a, .int .i64 b, fv] w fun e w' => e = .returned (.tuple #[]) ∧ Row w' g n cap (A ++ (sortS kz X ++ B)) ∧ Kp g w w' := by
  have HL : Aside0 (n = A.length + X.length + B.length) := ⟨by have := h.len; simp at this; omega⟩
  have hbn : b ≤ n := by have := HL.out; omega
  have hab : a ≤ b := by omega
  have HR := Aside0.mk h
  have HW := Aside0.mk hW
  have HA := Aside0.mk ha
  have HB := Aside0.mk hb
  clear h hW ha hb
  have w0 : IntKind.i64.wrap ((a : Int) + 1) = ((a + 1 : Nat) : Int) := by rw [IntWalk.i64_in _ (by omega)]; omega
  have H0 : Aside0 (Row w g n cap (A ++ (sortS kz (X.take (a + 1 - a)) ++ (X.drop (a + 1 - a) ++ B)))) := ⟨by
    have e : A ++ (sortS kz (X.take (a + 1 - a)) ++ (X.drop (a + 1 - a) ++ B)) = A ++ (X ++ B) := by
      rw [show a + 1 - a = 1 by omega]
      cases X with
      | nil => rfl
      | cons x X => rfl
    rw [e]; exact HR.out⟩
  clear HR
  unfold fv
  go_enter Try.func46, Try.ntmps46
  go_wp2_with fail
  clear w0
  go_loopw [8] (fun v8 wr => ∃ i : Nat, a < i ∧ i ≤ n + 1 ∧ v8 = .int .i64 i ∧ Aside0 (Row wr g n cap (A ++ (sortS kz (X.take (i - a)) ++ (X.drop (i - a) ++ B)))) ∧ Aside0 (Kp g w wr)) (fun v8 _ => n + 1 - (intOf v8).toNat)
  case atStart => exact ⟨a + 1, by omega, by omega, by go_num, H0, ⟨Kp.refl g w⟩⟩
  case round =>
    clear H0
    obtain ⟨i, h1, h2, rfl, HRr, HKr⟩ := hrel
    by_cases hib : i < b
    · obtain ⟨z, hz⟩ : ∃ z, X.getD (i - a) 0 = z := ⟨_, rfl⟩
      have hiX : i - a < X.length := by have := HB.out; omega
      have hdrop : X.drop (i - a) = z :: X.drop (i + 1 - a) := by
        rw [List.drop_eq_getElem_cons hiX, ← hz, List.getD_eq_getElem?_getD, List.getElem?_eq_getElem hiX, show i + 1 - a = i - a + 1 by omega]; rfl
      have htake : X.take (i + 1 - a) = X.take (i - a) ++ [z] := by
        rw [show i + 1 - a = i - a + 1 by omega, List.take_succ_eq_append_getElem hiX, ← hz, List.getD_eq_getElem?_getD, List.getElem?_eq_getElem hiX]; rfl
      have hzw : 0 ≤ z ∧ z < 2 ^ 64 := by rw [← hz]; exact HW.out _ (getD_mem X _ hiX)
      obtain ⟨T, hT⟩ : ∃ T, sortS kz (X.take (i - a)) = T := ⟨_, rfl⟩
      have hTl : T.length = i - a := by rw [← hT, sortS_len, List.length_take]; omega
      have hTw : ∀ x ∈ T, 0 ≤ x ∧ x < 2 ^ 64 := fun x hx => by
        rw [← hT, sortS_mem] at hx
        exact HW.out x (List.mem_of_mem_take hx)
      have hTS : sortS kz (X.take (i + 1 - a)) = ins kz z T := by rw [htake, sortS_snoc, hT]
      have HTS := Aside0.mk hTS
      have HTL := Aside0.mk hTl
      have HTW := Aside0.mk hTw
      obtain ⟨R, hR⟩ : ∃ R, X.drop (i + 1 - a) = R := ⟨_, rfl⟩
      rw [hT, hdrop, hR] at HRr
      have HRE := Aside0.mk hR
      clear hz hdrop htake hT hTl hTw hTS hR hiX
      have hin : i < n := by omega
      have H1 : Aside0 (∃ U V : List Int, T = U ++ V ∧ (∀ v ∈ V, kz z < kz v) ∧ A.length + U.length = i ∧ Row wr g n cap (A ++ (U ++ z :: (V ++ (R ++ B))))) := ⟨T, [], by simp, by simp, by have := HTL.out; have := HA.out; omega, by
        have := HRr.out
        simpa using this⟩
      clear HRr
      go_wp2_with fail
      go_loopw [9] (fun v9 w2 => ∃ j : Nat, a ≤ j ∧ j ≤ i ∧ v9 = .int .i64 j ∧ Aside0 (∃ U V : List Int, T = U ++ V ∧ (∀ v ∈ V, kz z < kz v) ∧ A.length + U.length = j ∧ Row w2 g n cap (A ++ (U ++ z :: (V ++ (R ++ B))))) ∧ Aside0 (Kp g w w2)) (fun v9 _ => (intOf v9).toNat)
      case atStart => exact ⟨i, by omega, Nat.le_refl _, rfl, H1, HKr⟩
      case round =>
        clear H1 HKr
        obtain ⟨j, j1, j2, rfl, HUV, HKj⟩ := hrel
        obtain ⟨U, V, e1, e2, e3, hRj⟩ := HUV.out
        have HE1 := Aside0.mk e1
        have HE2 := Aside0.mk e2
        have HE3 := Aside0.mk e3
        have HRj := Aside0.mk hRj
        clear HUV e1 e2 e3 hRj
        by_cases hja : a < j
        · obtain ⟨q, rfl⟩ : ∃ q, j = q + 1 := ⟨j - 1, by omega⟩
          have hUl : 0 < U.length := by have := HE3.out; have := HA.out; omega
          obtain ⟨U', y, hU⟩ : ∃ U' y, U = U' ++ [y] := ⟨U.dropLast, U.getLast (List.ne_nil_of_length_pos hUl), (List.dropLast_concat_getLast _).symm⟩
          subst hU
          have hql : (A ++ U').length = q := by have := HE3.out; simp at this ⊢; omega
          have hD : A ++ (U' ++ [y] ++ z :: (V ++ (R ++ B))) = (A ++ U') ++ y :: (z :: (V ++ (R ++ B))) := by simp
          rw [hD] at HRj
          have HP : Aside0 (∀ w2 : World, Row w2 g n cap ((A ++ U') ++ y :: (z :: (V ++ (R ++ B)))) → (w2.cell? ⟨g, q, none⟩ = some (.int .u64 y) ∧ w2.frozen? ⟨g, q, none⟩ = false ∧ w2.cell? ⟨g, q + 1, none⟩ = some (.int .u64 z) ∧ w2.frozen? ⟨g, q + 1, none⟩ = false) ∧
              ((w2.setCell ⟨g, q + 1, none⟩ (.int .u64 y)).cell? ⟨g, q, none⟩ = some (.int .u64 y) ∧ (w2.setCell ⟨g, q + 1, none⟩ (.int .u64 y)).frozen? ⟨g, q, none⟩ = false) ∧ Row ((w2.setCell ⟨g, q + 1, none⟩ (.int .u64 y)).setCell ⟨g, q, none⟩ (.int .u64 z)) g n cap (A ++ (U' ++ z :: ((y :: V) ++ (R ++ B))))) := ⟨fun w2 hr => by
            have hlen : ((A ++ U') ++ y :: (z :: (V ++ (R ++ B)))).length = n := hr.len.symm
            obtain ⟨c0, c1⟩ := hr.at q (by rw [hlen]; omega)
            obtain ⟨c2, c3⟩ := hr.at (q + 1) (by rw [hlen]; omega)
            have g0 : ((A ++ U') ++ y :: (z :: (V ++ (R ++ B)))).getD q 0 = y := by rw [← hql, getD_mid]
            have g1 : ((A ++ U') ++ y :: (z :: (V ++ (R ++ B)))).getD (q + 1) 0 = z := by
              have := getD_mid (A ++ U' ++ [y]) z (V ++ (R ++ B))
              rw [show (A ++ U' ++ [y]).length = q + 1 by rw [List.length_append, hql]; rfl] at this
              rw [show (A ++ U') ++ y :: (z :: (V ++ (R ++ B))) = (A ++ U' ++ [y]) ++ z :: (V ++ (R ++ B)) by rw [List.append_assoc (A ++ U') [y]]; rfl]
              exact this
            rw [g0] at c0
            rw [g1] at c2
            have hr2 := (hr.put (q + 1) y).put q z
            have hset : ((((A ++ U') ++ y :: (z :: (V ++ (R ++ B)))).set (q + 1) y).set q z) = A ++ (U' ++ z :: ((y :: V) ++ (R ++ B))) := by
              have := set_two' (A ++ U') y z (V ++ (R ++ B))
              rw [hql] at this
              rw [this, List.append_assoc]; rfl
            rw [hset] at hr2
            obtain ⟨c4, c5⟩ := (hr.put (q + 1) y).at q (by rw [List.length_set, hlen]; omega)
            have g2 : (((A ++ U') ++ y :: (z :: (V ++ (R ++ B)))).set (q + 1) y).getD q 0 = y := by
              rw [List.getD_eq_getElem?_getD, List.getElem?_set_ne (by omega), ← List.getD_eq_getElem?_getD, g0]
            rw [g2] at c4
            exact ⟨⟨c0, c1, c2, c3⟩, ⟨c4, c5⟩, hr2⟩⟩
          have hyw : 0 ≤ y ∧ y < 2 ^ 64 := HTW.out y (by rw [HE1.out]; simp)
          have w3 : IntKind.i64.wrap (((q + 1 : Nat) : Int) - 1) = (q : Int) := by rw [IntWalk.i64_in _ (by omega)]; omega
          have hkn : ((q + 1 : Nat) : Int) < (n : Int) := by omega
          have hqn : (q : Int) < (n : Int) := by omega
          have hka : (a : Int) < ((q + 1 : Nat) : Int) := by omega
          have HQL := Aside0.mk hql
          have HDD := Aside0.mk hD
          obtain ⟨k, hk⟩ : ∃ k, q + 1 = k := ⟨_, rfl⟩
          have HKQ := Aside0.mk hk
          have hne : k ≠ q := by omega
          have hne2 : q ≠ k := Ne.symm hne
          rw [hk] at w3 hkn hka HE3 j1 j2 hja HP
          rw [hk]
          clear hk hD hql hUl
          have hS : ∀ w', Below wr.heap.size wr w' → w'.cell? ⟨g, k, none⟩ = some (.int .u64 z) ∧ w'.cell? ⟨g, q, none⟩ = some (.int .u64 y) := fun w' hb => by
            obtain ⟨⟨c0, c1, c2, c3⟩, _, _⟩ := HP.out wr HRj.out
            exact ⟨pw_cell_below hb c2, pw_cell_below hb c0⟩
          by_cases hc : kz z < kz y
          · have d1 : decide (cz z y < 0) = true := decide_eq_true ((cz_lt z y).2 hc)
            go_wp2_with fail
            go_region_held3 (fun w' => w'.cell? ⟨g, k, none⟩ = some (.int .u64 z) ∧ w'.cell? ⟨g, q, none⟩ = some (.int .u64 y))
              (first | exact hS _ (below_drew (Below.refl _ _)) | exact hS _ (pw_below_drewN (Below.refl _ _) _))
              (first | (go_at_call 29; refine (cl_calls z y hzw hyw _).mono ?_; rintro e w2 ⟨rfl, x, rfl⟩))
            rename_i hHeld_
            clear hHeld_ hS
            have HRq := Aside0.mk (HRj.out.drewN (1 + x))
            have HKq := Aside0.mk (HKj.out.drewN (1 + x))
            clear HRj HKj
            generalize wr.drewN (1 + x) = wq at HRq HKq ⊢
            obtain ⟨⟨c0, c1, c2, c3⟩, ⟨c4, c5⟩, hr2⟩ := HP.out wq HRq.out
            have H2 : Aside0 (∃ U V' : List Int, T = U ++ V' ∧ (∀ v ∈ V', kz z < kz v) ∧ A.length + U.length = q ∧ Row ((wq.setCell ⟨g, k, none⟩ (.int .u64 y)).setCell ⟨g, q, none⟩ (.int .u64 z)).drew g n cap (A ++ (U ++ z :: (V' ++ (R ++ B))))) := ⟨U', y :: V, by rw [HE1.out]; simp, fun v hv => by
              rcases List.mem_cons.1 hv with rfl | hv
              · exact hc
              · exact HE2.out v hv, by have := HQL.out; rw [List.length_append] at this; exact this, hr2.drew⟩
            have HK2 := Aside0.mk (((HKq.out.set k (.int .u64 y)).set q (.int .u64 z)).drew)
            clear hr2 HRq HKq
            go_wp2_with fail
            go_big_region
            clear c0 c1 c2 c3 c4 c5
            go_wp2_with fail
            go_roundw
            case rel => exact ⟨q, by have := HKQ.out; omega, by have := HKQ.out; omega, by have := HKQ.out; go_num, H2, HK2⟩
            case measure => have := HKQ.out; simp [intOf]; omega
          · have d1 : decide (cz z y < 0) = false := decide_eq_false (fun p => hc ((cz_lt z y).1 p))
            go_wp2_with fail
            go_region_held3 (fun w' => w'.cell? ⟨g, k, none⟩ = some (.int .u64 z) ∧ w'.cell? ⟨g, q, none⟩ = some (.int .u64 y))
              (first | exact hS _ (below_drew (Below.refl _ _)) | exact hS _ (pw_below_drewN (Below.refl _ _) _))
              (first | (go_at_call 29; refine (cl_calls z y hzw hyw _).mono ?_; rintro e w2 ⟨rfl, x, rfl⟩))
            rename_i hHeld_
            clear hHeld_ hS
            have HO : Aside0 (Row (wr.drewN (1 + x)) g n cap (A ++ (sortS kz (X.take (i + 1 - a)) ++ (X.drop (i + 1 - a) ++ B)))) := ⟨by
              have e : ins kz z T = U' ++ [y, z] ++ V := by
                rw [HE1.out, ins_app kz z _ V.length V rfl HE2.out, ins_snoc, if_neg (by omega)]
              rw [HTS.out, e, HRE.out]
              have := HRj.out.drewN (1 + x)
              simpa using this⟩
            have HKq := Aside0.mk (HKj.out.drewN (1 + x))
            clear HRj HKj
            generalize wr.drewN (1 + x) = wq at HO HKq ⊢
            go_wp2_with fail
            go_roundw
            case rel => exact ⟨i + 1, by omega, by omega, by go_num, HO, HKq⟩
            case measure => simp [intOf]; omega
        · have hja2 : j = a := by omega
          subst hja2
          have hU0 : U = [] := List.length_eq_zero_iff.1 (by have := HE3.out; have := HA.out; omega)
          subst hU0
          have d0 : ¬ (j : Int) < (j : Int) := by omega
          have HO : Aside0 (∀ m, Row (wr.drewN m) g n cap (A ++ (sortS kz (X.take (i + 1 - j)) ++ (X.drop (i + 1 - j) ++ B)))) := ⟨fun m => by
            have e : ins kz z T = z :: V := by
              rw [HE1.out, ins_app kz z [] V.length V rfl HE2.out]; rfl
            rw [HTS.out, e, HRE.out]
            have := HRj.out.drewN m
            simpa using this⟩
          clear HRj
          go_wp2_with fail
          go_quiet (fail)
          have HO2 := Aside0.mk (HO.out nq)
          have HKq := Aside0.mk (HKj.out.drewN nq)
          clear HO HKj
          generalize wr.drewN nq = wq at HO2 HKq ⊢
          go_wp2_with fail
          go_roundw
          case rel => exact ⟨i + 1, by omega, by omega, by go_num, HO2, HKq⟩
          case measure => simp [intOf]; omega
    · have hT : A ++ (sortS kz (X.take (i - a)) ++ (X.drop (i - a) ++ B)) = A ++ (sortS kz X ++ B) := by
        have := HB.out
        rw [List.take_of_length_le (by omega), List.drop_of_length_le (by omega)]; rfl
      rw [hT] at HRr
      clear hT
      go_wp2_with fail
      exact bodyPost_end (v := .tuple #[]) (by simp [results, Try.results46, go_sem]) rfl ⟨rfl, HRr.out, HKr.out⟩
end Go.Proofs.Ytlobedghenflfaa.P
