/- Sorting: blocks that are sorted, and put together two by two. No condition but each theorem's own. -/
import Derived.Test.YtlobedghenflfaaSortM4
namespace Go.Proofs.Ytlobedghenflfaa.P
open Go.RowKit Go.Proofs.YtlobedghenflfaaW.PrintWords Go.Proofs.YtlobedghenflfaaW.PrintLast Go.Proofs.YtlobedghenflfaaW.PrintMore Go.Proofs.Ytlobedghenflfaa.S
set_option linter.unusedVariables false
set_option linter.unusedSimpArgs false
/-- blocks, each sorted -/
def csF (bs : Nat) : Nat → List Int → List Int
  | 0, _ => []
  | f + 1, d => if d.length ≤ bs then sortS kz d else sortS kz (d.take bs) ++ csF bs f (d.drop bs)
def cs (bs : Nat) (d : List Int) : List Int := csF bs (d.length + 1) d
theorem csF_fuel (bs : Nat) (hb : 0 < bs) : ∀ (f f' : Nat) (d : List Int), d.length < f → d.length < f' → csF bs f d = csF bs f' d
  | 0, _, d, h, _ => by omega
  | f + 1, 0, d, _, h => by omega
  | f + 1, f' + 1, d, h1, h2 => by
    unfold csF
    by_cases h : d.length ≤ bs
    · rw [if_pos h, if_pos h]
    · rw [if_neg h, if_neg h, csF_fuel bs hb f f' (d.drop bs) (by rw [List.length_drop]; omega) (by rw [List.length_drop]; omega)]
theorem cs_small (bs : Nat) (d : List Int) (h : d.length ≤ bs) : cs bs d = sortS kz d := by unfold cs csF; rw [if_pos h]
theorem cs_step (bs : Nat) (hb : 0 < bs) (d : List Int) (h : bs ≤ d.length) : cs bs d = sortS kz (d.take bs) ++ cs bs (d.drop bs) := by
  by_cases h2 : d.length ≤ bs
  · rw [cs_small bs d h2, List.take_of_length_le h2, List.drop_of_length_le h2, cs_small bs [] (by simp)]
    show _ = _ ++ []
    rw [List.append_nil]
  · conv => lhs; unfold cs csF
    rw [if_neg h2]
    congr 1
    exact csF_fuel bs hb _ _ _ (by rw [List.length_drop]; omega) (by omega)
theorem cs_two (bs : Nat) (hb : 0 < bs) (d : List Int) (h : 2 * bs ≤ d.length) : cs bs d = sortS kz (d.take bs) ++ (sortS kz ((d.drop bs).take bs) ++ cs bs (d.drop (2 * bs))) := by
  rw [cs_step bs hb d (by omega), cs_step bs hb (d.drop bs) (by rw [List.length_drop]; omega), List.drop_drop, show bs + bs = 2 * bs by omega]
theorem sort_two (d : List Int) (k : Nat) : mg kz (sortS kz (d.take k)) (sortS kz (d.drop k)) = sortS kz d := by
  rw [mg_sortS kz _ _ _ rfl, List.take_append_drop]
theorem take_two (d : List Int) (bs : Nat) : d.take (2 * bs) = d.take bs ++ (d.drop bs).take bs := by
  rw [show 2 * bs = bs + bs by omega, List.take_add]
theorem csF_len (bs : Nat) : ∀ (f : Nat) (d : List Int), d.length < f → (0 < bs) → (csF bs f d).length = d.length
  | 0, d, h, _ => by omega
  | f + 1, d, h, hb => by
    unfold csF
    split
    · exact sortS_len kz d
    · rw [List.length_append, sortS_len, csF_len bs f _ (by rw [List.length_drop]; omega) hb, List.length_take, List.length_drop]; omega
theorem cs_len (bs : Nat) (hb : 0 < bs) (d : List Int) : (cs bs d).length = d.length := csF_len bs _ d (by omega) hb
theorem wd_sub {d e : List Int} (h : Wd d) (hs : ∀ x ∈ e, x ∈ d) : Wd e := fun x hx => h x (hs x hx)
set_option maxHeartbeats 8000000 in
set_option maxRecDepth 100000 in
theorem stable_calls (g n cap : Nat) (d : List Int) (w : World) (h : Row w g n cap d) (hW : Wd d) (hn : n ≤ 1099511627776) :
    Calls Try.prog 41 #[.slice (some ⟨g, 0, none⟩) n cap, .int .i64 n, fv] w fun e w' => e = .returned (.tuple #[]) ∧ Row w' g n cap (sortS kz d) ∧ Kp g w w' := by
  have HL := Aside0.mk h.len
  have HR := Aside0.mk h
  have HW := Aside0.mk hW
  clear h hW
  unfold fv
  go_enter Try.func41, Try.ntmps41
  go_wp2_with fail
  go_loopw [7, 8] (fun v7 v8 wr => ∃ a : Nat, a ≤ n ∧ v7 = .int .i64 a ∧ v8 = .int .i64 ((a + 20 : Nat) : Int) ∧ Aside0 (∃ P : List Int, P.length = a ∧ Row wr g n cap (P ++ d.drop a) ∧ P ++ cs 20 (d.drop a) = cs 20 d) ∧ Aside0 (Kp g w wr)) (fun v7 _ _ => n - (intOf v7).toNat)
  case atStart => exact ⟨0, by omega, rfl, rfl, ⟨[], rfl, by simpa using HR.out, by simp⟩, ⟨Kp.refl g w⟩⟩
  case round =>
    clear HR
    obtain ⟨a, h1, rfl, rfl, HPa, HKr⟩ := hrel
    obtain ⟨P, e1, hRr, e2⟩ := HPa.out
    have HRr := Aside0.mk hRr
    have HE1 := Aside0.mk e1
    have HE2 := Aside0.mk e2
    clear hRr e1 e2 HPa
    obtain ⟨b, hb⟩ : ∃ b, a + 20 = b := ⟨_, rfl⟩
    rw [hb]
    have HB := Aside0.mk hb
    clear hb
    have w1 : IntKind.i64.wrap ((b : Int) + 20) = ((b + 20 : Nat) : Int) := by have := HB.out; rw [IntWalk.i64_in _ (by omega)]; omega
    by_cases hbn : b ≤ n
    · have hbz : (b : Int) ≤ (n : Int) := by omega
      have e3 : d.drop a = (d.drop a).take 20 ++ d.drop b := by
        rw [← HB.out, ← List.drop_drop, List.take_append_drop]
      have hl20 : ((d.drop a).take 20).length = 20 := by rw [List.length_take, List.length_drop]; have := HL.out; have := HB.out; omega
      have hR2 : Row wr g n cap (P ++ ((d.drop a).take 20 ++ d.drop b)) := by rw [← e3]; exact HRr.out
      have hc : Calls Try.prog 46 #[.slice (some ⟨g, 0, none⟩) n cap, .int .i64 a, .int .i64 b, fv] wr fun e w' => e = .returned (.tuple #[]) ∧ Row w' g n cap (P ++ (sortS kz ((d.drop a).take 20) ++ d.drop b)) ∧ Kp g wr w' :=
        insertion_calls g n cap P ((d.drop a).take 20) (d.drop b) a b wr hR2 (wd_sub HW.out (fun x hx => List.mem_of_mem_drop (List.mem_of_mem_take hx))) HE1.out.symm (by rw [hl20]; exact HB.out.symm) (by omega)
      unfold fv at hc
      have HC := Aside0.mk hc
      have HPb : Aside0 ((P ++ sortS kz ((d.drop a).take 20)).length = b ∧ (P ++ sortS kz ((d.drop a).take 20)) ++ cs 20 (d.drop b) = cs 20 d) := ⟨by
        refine ⟨by rw [List.length_append, sortS_len, hl20, HE1.out]; exact HB.out, ?_⟩
        rw [← HE2.out, cs_step 20 (by omega) (d.drop a) (by rw [List.length_drop]; have := HL.out; have := HB.out; omega), List.drop_drop, HB.out, List.append_assoc]⟩
      clear e3 hR2 hc hl20
      go_wp2_with fail
      refine HC.out.mono ?_
      rintro e w2 ⟨rfl, hR3, hK3⟩
      have H3 : Aside0 (∃ P : List Int, P.length = b ∧ Row w2 g n cap (P ++ d.drop b) ∧ P ++ cs 20 (d.drop b) = cs 20 d) := ⟨_, HPb.out.1, by rw [List.append_assoc]; exact hR3, HPb.out.2⟩
      have HK3 := Aside0.mk (HKr.out.trans hK3)
      clear hR3 hK3 HC HPb HRr HKr
      go_wp2_with fail
      go_roundw
      case rel => exact ⟨b, hbn, rfl, by go_num, H3, HK3⟩
      case measure => have := HB.out; simp [intOf]; omega
    · have hbz : ¬ (b : Int) ≤ (n : Int) := by omega
      have hR2 : Row wr g n cap (P ++ (d.drop a ++ [])) := by rw [List.append_nil]; exact HRr.out
      have hla : (d.drop a).length = n - a := by rw [List.length_drop]; have := HL.out; omega
      have hc : Calls Try.prog 46 #[.slice (some ⟨g, 0, none⟩) n cap, .int .i64 a, .int .i64 n, fv] wr fun e w' => e = .returned (.tuple #[]) ∧ Row w' g n cap (P ++ (sortS kz (d.drop a) ++ [])) ∧ Kp g wr w' :=
        insertion_calls g n cap P (d.drop a) [] a n wr hR2 (wd_sub HW.out (fun x hx => List.mem_of_mem_drop hx)) HE1.out.symm (by rw [hla]; omega) (by omega)
      unfold fv at hc
      have hfin : P ++ (sortS kz (d.drop a) ++ []) = cs 20 d := by
        rw [← HE2.out, cs_small 20 (d.drop a) (by rw [hla]; have := HB.out; omega), List.append_nil]
      rw [hfin] at hc
      have HC := Aside0.mk hc
      clear hR2 hc hfin hla
      go_wp2_with fail
      refine HC.out.mono ?_
      rintro e w2 ⟨rfl, hR3, hK3⟩
      have HR3 := Aside0.mk hR3
      have HK3 := Aside0.mk (HKr.out.trans hK3)
      clear hR3 hK3 HC HRr HKr HE1 HE2 P
      go_wp2_with fail
      clear w1 hbz hbn
      go_loopw [6] (fun v6 wr => ∃ bs : Nat, 20 ≤ bs ∧ bs ≤ 2 * n + 20 ∧ v6 = .int .i64 bs ∧ Aside0 (Row wr g n cap (cs bs d)) ∧ Aside0 (Kp g w wr)) (fun v6 _ => 2 * n + 21 - (intOf v6).toNat)
      case atStart => exact ⟨20, by omega, by omega, rfl, HR3, HK3⟩
      case round =>
        clear HR3 HK3 HB
        obtain ⟨bs, k1, k2, rfl, HRb, HKb⟩ := hrel
        by_cases hbs : bs < n
        · have w2 : IntKind.i64.wrap (2 * (bs : Int)) = ((2 * bs : Nat) : Int) := by rw [IntWalk.i64_in _ (by omega)]; omega
          have w3 : IntKind.i64.wrap ((bs : Int) * 2) = ((2 * bs : Nat) : Int) := by rw [IntWalk.i64_in _ (by omega)]; omega
          have hbz : (bs : Int) < (n : Int) := by omega
          obtain ⟨bb, hbb⟩ : ∃ bb, 2 * bs = bb := ⟨_, rfl⟩
          rw [hbb] at w2 w3
          have HBB := Aside0.mk hbb
          clear hbb
          go_wp2_with fail
          go_loopw [7, 8] (fun v7 v8 w2 => ∃ a : Nat, a ≤ n ∧ v7 = .int .i64 a ∧ v8 = .int .i64 ((a + bb : Nat) : Int) ∧ Aside0 (∃ P : List Int, P.length = a ∧ Row w2 g n cap (P ++ cs bs (d.drop a)) ∧ P ++ cs bb (d.drop a) = cs bb d) ∧ Aside0 (Kp g w w2)) (fun v7 _ _ => n - (intOf v7).toNat)
          case atStart => exact ⟨0, by omega, rfl, by rw [Nat.zero_add], ⟨[], rfl, by simpa using HRb.out, by simp⟩, HKb⟩
          case round =>
            clear HRb HKb
            obtain ⟨a, h1, rfl, rfl, HPa, HKr⟩ := hrel
            obtain ⟨P, e1, hRr, e2⟩ := HPa.out
            have HRr := Aside0.mk hRr
            have HE1 := Aside0.mk e1
            have HE2 := Aside0.mk e2
            clear hRr e1 e2 HPa
            have w4 : IntKind.i64.wrap ((a : Int) + (bs : Int)) = ((a + bs : Nat) : Int) := by rw [IntWalk.i64_in _ (by omega)]; omega
            obtain ⟨m, hm⟩ : ∃ m, a + bs = m := ⟨_, rfl⟩
            rw [hm] at w4
            have HM := Aside0.mk hm
            obtain ⟨b, hb⟩ : ∃ b, a + bb = b := ⟨_, rfl⟩
            rw [hb]
            have HB := Aside0.mk hb
            clear hb hm
            have w5 : IntKind.i64.wrap ((b : Int) + (bb : Int)) = ((b + bb : Nat) : Int) := by have := HB.out; have := HBB.out; rw [IntWalk.i64_in _ (by omega)]; omega
            have hla : (d.drop a).length = n - a := by rw [List.length_drop]; have := HL.out; omega
            by_cases hbn : b ≤ n
            · have hbz : (b : Int) ≤ (n : Int) := by omega
              have q1 := HB.out
              have q2 := HBB.out
              have q3 := HM.out
              have e3 : cs bs (d.drop a) = sortS kz ((d.drop a).take bs) ++ (sortS kz (((d.drop a).drop bs).take bs) ++ cs bs (d.drop b)) := by
                rw [cs_two bs (by omega) (d.drop a) (by omega), List.drop_drop, List.drop_drop, show a + 2 * bs = b by omega]
              have l1 : (sortS kz ((d.drop a).take bs)).length = bs := by rw [sortS_len, List.length_take]; omega
              have l2 : (sortS kz (((d.drop a).drop bs).take bs)).length = bs := by rw [sortS_len, List.length_take, List.length_drop]; omega
              have hR2 : Row wr g n cap (P ++ (sortS kz ((d.drop a).take bs) ++ (sortS kz (((d.drop a).drop bs).take bs) ++ cs bs (d.drop b)))) := by rw [← e3]; exact HRr.out
              have hc := symMerge_calls (b - a) g n cap P (sortS kz ((d.drop a).take bs)) (sortS kz (((d.drop a).drop bs).take bs)) (cs bs (d.drop b)) a m b wr (Nat.le_refl _) (by omega) hR2
                (wd_sub HW.out (fun x hx => List.mem_of_mem_drop (List.mem_of_mem_take ((sortS_mem kz _ x).1 hx)))) (wd_sub HW.out (fun x hx => List.mem_of_mem_drop (List.mem_of_mem_drop (List.mem_of_mem_take ((sortS_mem kz _ x).1 hx)))))
                HE1.out.symm (by omega) (by omega) (by omega) (by omega) (sortS_sorted kz _ _ rfl) (sortS_sorted kz _ _ rfl)
              rw [mg_sortS kz _ _ _ rfl, ← take_two, q2] at hc
              unfold fv at hc
              have HC := Aside0.mk hc
              have l3 : (sortS kz ((d.drop a).take bb)).length = bb := by rw [sortS_len, List.length_take]; omega
              have HPb : Aside0 ((P ++ sortS kz ((d.drop a).take bb)).length = b ∧ (P ++ sortS kz ((d.drop a).take bb)) ++ cs bb (d.drop b) = cs bb d) := ⟨by
                refine ⟨by rw [List.length_append, l3, HE1.out]; exact q1, ?_⟩
                rw [← HE2.out, cs_step bb (by omega) (d.drop a) (by omega), List.drop_drop, q1, List.append_assoc]⟩
              clear e3 hR2 hc l1 l2 l3 q1 q2 q3 hla
              go_wp2_with fail
              refine HC.out.mono ?_
              rintro e w2 ⟨rfl, hR3, hK3⟩
              have H3 : Aside0 (∃ P : List Int, P.length = b ∧ Row w2 g n cap (P ++ cs bs (d.drop b)) ∧ P ++ cs bb (d.drop b) = cs bb d) := ⟨_, HPb.out.1, by rw [List.append_assoc]; exact hR3, HPb.out.2⟩
              have HK3 := Aside0.mk (HKr.out.trans hK3)
              clear hR3 hK3 HC HPb HRr HKr
              go_wp2_with fail
              go_roundw
              case rel => exact ⟨b, hbn, rfl, by go_num, H3, HK3⟩
              case measure => have := HB.out; have := HBB.out; simp [intOf]; omega
            · have hbz : ¬ (b : Int) ≤ (n : Int) := by omega
              by_cases hmn : m < n
              · have hmz : (m : Int) < (n : Int) := by omega
                have q1 := HB.out
                have q2 := HBB.out
                have q3 := HM.out
                have e3 : cs bs (d.drop a) = sortS kz ((d.drop a).take bs) ++ (sortS kz ((d.drop a).drop bs) ++ []) := by
                  rw [cs_step bs (by omega) (d.drop a) (by omega), cs_small bs ((d.drop a).drop bs) (by rw [List.length_drop]; omega), List.append_nil]
                have l1 : (sortS kz ((d.drop a).take bs)).length = bs := by rw [sortS_len, List.length_take]; omega
                have l2 : (sortS kz ((d.drop a).drop bs)).length = n - a - bs := by rw [sortS_len, List.length_drop]; omega
                have hR2 : Row wr g n cap (P ++ (sortS kz ((d.drop a).take bs) ++ (sortS kz ((d.drop a).drop bs) ++ []))) := by rw [← e3]; exact HRr.out
                have hc := symMerge_calls (n - a) g n cap P (sortS kz ((d.drop a).take bs)) (sortS kz ((d.drop a).drop bs)) [] a m n wr (Nat.le_refl _) (by omega) hR2
                  (wd_sub HW.out (fun x hx => List.mem_of_mem_drop (List.mem_of_mem_take ((sortS_mem kz _ x).1 hx)))) (wd_sub HW.out (fun x hx => List.mem_of_mem_drop (List.mem_of_mem_drop ((sortS_mem kz _ x).1 hx))))
                  HE1.out.symm (by omega) (by omega) (by omega) (by omega) (sortS_sorted kz _ _ rfl) (sortS_sorted kz _ _ rfl)
                have hfin : P ++ (sortS kz (d.drop a) ++ []) = cs bb d := by
                  rw [← HE2.out, cs_small bb (d.drop a) (by omega), List.append_nil]
                rw [sort_two, hfin] at hc
                unfold fv at hc
                have HC := Aside0.mk hc
                clear e3 hR2 hc l1 l2 q1 q2 q3 hla hfin
                go_wp2_with fail
                refine HC.out.mono ?_
                rintro e w2 ⟨rfl, hR3, hK3⟩
                have HR3 := Aside0.mk hR3
                have HK3 := Aside0.mk (HKr.out.trans hK3)
                clear hR3 hK3 HC HRr HKr
                go_wp2_with fail
                go_roundw
                case rel => exact ⟨bb, by have := HBB.out; omega, by have := HBB.out; omega, by go_num, HR3, HK3⟩
                case measure => have := HBB.out; simp [intOf]; omega
              · have hmz : ¬ (m : Int) < (n : Int) := by omega
                have q1 := HB.out
                have q2 := HBB.out
                have q3 := HM.out
                have hfin : P ++ cs bs (d.drop a) = cs bb d := by
                  rw [← HE2.out, cs_small bb (d.drop a) (by omega), cs_small bs (d.drop a) (by omega)]
                rw [hfin] at HRr
                clear hfin q1 q2 q3 hla
                go_wp2_with fail
                go_roundw
                case rel => exact ⟨bb, by have := HBB.out; omega, by have := HBB.out; omega, by go_num, HRr, HKr⟩
                case measure => have := HBB.out; simp [intOf]; omega
        · have hbz : ¬ (bs : Int) < (n : Int) := by omega
          have hfin : cs bs d = sortS kz d := cs_small bs d (by have := HL.out; omega)
          rw [hfin] at HRb
          clear hfin
          go_wp2_with fail
          exact bodyPost_end (v := .tuple #[]) (by simp [results, Try.results41, go_sem]) rfl ⟨rfl, HRb.out, HKb.out⟩
end Go.Proofs.Ytlobedghenflfaa.P
