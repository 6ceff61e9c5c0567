/-
  The law MatrixTexts: plain, and its walk.
-/
import Derived.Test.YtgphfhpobppmeaaTb
import Derived.Test.YtgphfhpobppmeaaWu
namespace Go.Proofs.Ytgphfhpobppmeaa
open Go.RowKit GfM

/-! ### plain -/
theorem mulM_en (A B : List (List UInt8)) (r c : Nat) (hr : r < A.length) (hc : c < (B.getD 0 []).length) : en (mulM A B) r c = mm B.length (en A) (en B) r c := by
  unfold en
  rw [mulM_row A B r hr, List.getD_eq_getElem?_getD, List.getElem?_map, List.getElem?_range hc]
  rfl
theorem mulM_rowlen (A B : List (List UInt8)) (r : Nat) (hr : r < A.length) : ((mulM A B).getD r []).length = (B.getD 0 []).length := by
  rw [mulM_row A B r hr]; simp
theorem mulM_good {A B : List (List UInt8)} (gA : goodM A = true) (gB : goodM B = true) : goodM (mulM A B) = true := by
  obtain ⟨a1, a2, _, _, _⟩ := (good_iff A).1 gA
  obtain ⟨_, _, b3, b4, _⟩ := (good_iff B).1 gB
  have h0 := mulM_rowlen A B 0 (by omega)
  refine (good_iff _).2 ⟨by rw [mulM_length]; omega, by rw [mulM_length]; omega, by omega, by omega, rfl, fun r hr => ?_⟩
  rw [mulM_length] at hr
  rw [mulM_rowlen A B r hr, h0]
theorem apL_size {A : List (List UInt8)} {T : List ByteArray} (h : ∀ j, j < T.length → (tl T j).size = nn T) (r : Nat) (hr : r < A.length) : (tl (apL A T) r).size = nn T := by
  rw [apL_at A T r hr, bs_size, apRow_length A T (nn T) r _ h]
theorem ap_mul {A B : List (List UInt8)} {C : List ByteArray} (gA : goodM A = true) (hab : (A.getD 0 []).length = B.length) (hf : apE B C = 0) :
    apE A (apL B C) = 0 ∧ apE (mulM A B) C = 0 ∧ apL A (apL B C) = apL (mulM A B) C := by
  obtain ⟨gB, hl, hs, hN⟩ := apE_ok hf
  obtain ⟨b1, b2, b3, b4, bS⟩ := (good_iff B).1 gB
  obtain ⟨a1, a2, _, _, _⟩ := (good_iff A).1 gA
  have hnn : nn (apL B C) = nn C := apL_size hs 0 (by omega)
  have hs2 : ∀ j, j < (apL B C).length → (tl (apL B C) j).size = nn C := fun j hj => apL_size hs j (by rw [apL_length] at hj; exact hj)
  have e1 : apE A (apL B C) = 0 := apE_of gA (by rw [apL_length, hab]) (fun j hj => by rw [hs2 j hj, hnn]) (by rw [hnn]; exact hN)
  have e2 : apE (mulM A B) C = 0 := apE_of (mulM_good gA gB) (by rw [hl, mulM_rowlen A B 0 (by omega)]) hs hN
  refine ⟨e1, e2, ?_⟩
  unfold apL
  rw [mulM_length]
  apply List.map_congr_left
  intro r hr
  have hr' : r < A.length := by simpa using hr
  rw [bs_inj]
  have hnn' : nn ((List.range B.length).map fun r => bs (apRow B C (nn C) r C.length)) = nn C := hnn
  have hlen' : ((List.range B.length).map fun r => bs (apRow B C (nn C) r C.length)).length = B.length := by simp
  rw [hnn', hlen']
  have hs3 : ∀ j, j < B.length → (tl (apL B C) j).size = nn C := fun j hj => hs2 j (by rw [apL_length]; exact hj)
  refine list_ext0 (n := nn C) (apRow_length A (apL B C) (nn C) r _ hs3) (apRow_length _ _ _ _ _ hs) fun k hk => ?_
  have h1 := apRow_at A (apL B C) (nn C) r B.length k hs3 hk
  have h2 := apRow_at (mulM A B) C (nn C) r C.length k hs hk
  refine h1.trans (Eq.trans ?_ h2.symm)
  have f1 : sx B.length (fun c => mul (en A r c) ((tb (apL B C) c).getD k 0)) = mm B.length (en A) (mm C.length (en B) (fun c k => (tb C c).getD k 0)) r k := by
    refine sx_congr _ fun j hj => ?_
    congr 1
    have h3 := apRow_at B C (nn C) j C.length k hs hk
    show ((tl (apL B C) j).data.toList).getD k 0 = _
    rw [apL_at B C j hj, bs_toList, h3]
    rfl
  have f2 : sx C.length (fun c => mul (en (mulM A B) r c) ((tb C c).getD k 0)) = mm C.length (mm B.length (en A) (en B)) (fun c k => (tb C c).getD k 0) r k := by
    refine sx_congr _ fun c hc => ?_
    rw [mulM_en A B r c hr' (by rw [← hl]; exact hc)]
  rw [f1, f2, mm_assoc]

/-! ### the walk -/
set_option maxRecDepth 100000 in
set_option maxHeartbeats 2000000 in
theorem matrixTexts_walk (w : World) (va : Value) (A : List (List UInt8)) (hA : RMat w va A) (vb : Value) (B : List (List UInt8)) (hB : RMat w vb B) (vl : Value) (T : List ByteArray) (hT : Reads w vl (sv T)) :
    Calls Try.prog 9 #[va, vb, vl] w fun e w' => e = .returned (.bool true) ∧ Below w.heap.size w w' := by
  have hmul := mulm_any w va vb A B hA hB
  have hapA := fun W (h : Below w.heap.size w W) v C (hC : Reads W v (sv C)) => apply_any W va A (hA.below h) v C hC
  have hapB := fun W (h : Below w.heap.size w W) v C (hC : Reads W v (sv C)) => apply_any W vb B (hB.below h) v C hC
  have HAPA := Lib.hid hapA; clear hapA
  have HAPB := Lib.hid hapB; clear hapB hA hB
  have HMUL := Lib.hid hmul; clear hmul
  have hlaw : ∀ C, (mulOut A B).2 = 0 → apE B C = 0 → (mulOut A B).1 = mulM A B ∧ apE A (apL B C) = 0 ∧ apE (mulM A B) C = 0 ∧ apL A (apL B C) = apL (mulM A B) C := by
    intro C h1 h2
    unfold mulOut at h1 ⊢
    by_cases hg : goodM A = false ∨ goodM B = false
    · rw [if_pos hg] at h1; cases h1
    · rw [if_neg hg] at h1 ⊢
      by_cases hd : (A.getD 0 []).length ≠ B.length
      · rw [if_pos hd] at h1; cases h1
      · rw [if_neg hd]
        have gA : goodM A = true := by
          cases hgA : goodM A
          · exact absurd (.inl hgA) hg
          · rfl
        have hd' : (A.getD 0 []).length = B.length := Classical.byContradiction fun e => hd e
        exact ⟨rfl, ap_mul gA hd' h2⟩
  have HLAW := Lib.hid hlaw; clear hlaw
  generalize (mulOut A B).2 = e1 at *
  generalize (mulOut A B).1 = P at *
  have hT0 := hT
  obtain ⟨A1, c1, rfl, hd1, hd2, _⟩ := hT.texts2
  by_cases h20 : T.length ≤ 20
  · have hrt := hT0.take' T.length (by rw [sv_length]; omega)
    rw [sv_take] at hrt
    have hlt : (T.take T.length).length = T.length := by rw [List.length_take]; omega
    generalize T.take T.length = C0 at *
    have HRT := Lib.hid hrt; clear hrt hT hT0
    have hone := Lib.hid (sv_one' C0)
    have hL : (([] : List Value).length + (sv C0).length) * 16 ≤ 140737488355328 := by rw [sv_length, hlt, List.length_nil]; omega
    have HL := Lib.hid hL; clear hL
    have HLT0 := Lib.hid hlt; clear hlt
    obtain ⟨k, hk⟩ : ∃ k, T.length = k := ⟨_, rfl⟩
    rw [hk] at h20 hd1 HLT0 HRT ⊢
    clear hk
    have HLT := Lib.hid HLT0.out; clear HLT0
    have hmn : ((k : Int) ≤ 20) := by omega
    go_enter Try.func9, Try.ntmps9
    go_wp2_with fail
    refine (HMUL.out).mono ?_
    rintro e w0 ⟨vp, rfl, hRp, hB0⟩
    have hRT0 := Lib.hid (HRT.out.below hB0)
    have hn0 := Lib.hid (Own.nil_ w0 w0.heap.size 9)
    go_wp2_with (at_builtin; refine append_many w0.heap.size rfl (.const (.slice none 0 0)) (.tmp 27) 42 9 (.string ⟨#[]⟩) 16 rfl Try.underlying42 info9' rfl (by decide) _ _ _ _ rfl rfl hRT0.out hone.out hn0.out (Below.refl _ _) (Nat.le_refl _) HL.out ?_; intro v3 w3 hO3 hB3 _ _; rw [List.nil_append] at hO3; obtain ⟨Al, cl, rfl⟩ := hO3.shape; rw [sv_length, HLT.out] at hO3 ⊢)
    have hMT : MyT w3 w0.heap.size (.slice Al k cl) k := ⟨C0, HLT.out, hO3⟩
    clear hO3
    go_loopw [9, 31] (fun _ s31 wr => ∃ i : Nat, i ≤ k ∧ s31 = .int .i64 i ∧ Hid (MyT wr w0.heap.size (.slice Al k cl) k) ∧ Below w0.heap.size w0 wr) (fun _ s31 _ => k - (intOf s31).toNat)
    case atStart => exact ⟨0, by omega, rfl, Lib.hid hMT, hB3⟩
    case round =>
      clear hMT hB3
      obtain ⟨i, hi, rfl, HM, hB⟩ := hrel
      by_cases hlt : i < k
      · obtain ⟨g, s, rfl, hg1, hg2, hci, hfi, hset⟩ := HM.out.at_ i hlt
        have HSET := Lib.hid hset; clear hset
        by_cases hs40 : s.size ≤ 40
        · have q1 : ¬ ((40 : Int) < (s.size : Int)) := by omega
          have q2 : s.extract 0 s.size = s := ByteArray.extract_zero_size
          have hB2 := hB.setCell (p := ⟨g, i, none⟩) hg1 (.string s)
          go_wp2
          go_region
          go_wp2
          go_roundw
          case rel => exact ⟨i + 1, by omega, by go_num, Lib.hid (HSET.out s).drew, hB2.drew⟩
          case measure => simp [intOf]; omega
        · have q1 : (40 : Int) < (s.size : Int) := by omega
          have q2 : (40 : Int) ≤ (s.size : Int) := by omega
          have hB2 := hB.setCell (p := ⟨g, i, none⟩) hg1 (.string (s.extract 0 40))
          go_wp2
          go_region
          go_wp2
          go_roundw
          case rel => exact ⟨i + 1, by omega, by go_num, Lib.hid (HSET.out (s.extract 0 40)).drew, hB2.drew⟩
          case measure => simp [intOf]; omega
      · obtain rfl : i = k := by omega
        obtain ⟨C, hCl, hOC⟩ := HM.out
        have hR := hOC.reads
        have hRp1 := hRp.below hB
        have hBw := below_then hB0 hB0.size hB
        clear hOC HM hRp hB hB0
        have HL3 := Lib.hid (HLAW.out C)
        go_wp2_with fail
        refine (HAPB.out _ hBw _ C hR).mono ?_
        rintro e w4 ⟨v4, rfl, hR4, hb4⟩
        have hB4 := below_then hBw hBw.size hb4
        go_wp2_with fail
        refine (wakes03 _).mono ?_
        rintro e w5 ⟨rfl, hb5⟩
        have hB5 := below_then hB4 hB4.size hb5
        have hR5 := hR4.below hb5
        have hRl5 := (hR.below hb4).below hb5
        have hRp5 := (hRp1.below hb4).below hb5
        clear hR4 hR hRp1 hb4 hb5
        by_cases he1 : e1 = 0
        · by_cases hf1 : apE B C = 0
          · obtain ⟨l0, l1, l2, l3⟩ := HL3.out he1 hf1
            subst he1
            have eB : apT B C = apL B C := by unfold apT; rw [if_pos hf1]
            have eA : apT A (apL B C) = apL A (apL B C) := by unfold apT; rw [if_pos l1]
            have eP : apT P C = apL A (apL B C) := by unfold apT; rw [l0, if_pos l2, l3]
            rw [eB] at hR5
            have hca := HAPA.out w5 hB5 _ _ hR5
            rw [l1, eA] at hca
            have hcp := fun W (h : RMat W vp P) (k : Reads W (.slice Al i cl) (sv C)) => apply_any W vp P h _ C k
            rw [show apE P C = 0 by rw [l0]; exact l2, eP] at hcp
            have HCA := Lib.hid hca; clear hca
            have HCP := Lib.hid hcp; clear hcp eB eA eP l0 l1 l2 l3
            rw [hf1]
            clear hf1
            obtain ⟨D, hD⟩ : ∃ D, apL A (apL B C) = D := ⟨_, rfl⟩
            rw [hD] at HCA HCP
            clear hD hR5
            go_wp2_with fail
            refine (HCA.out).mono ?_
            rintro e w6 ⟨v6, rfl, hR6, hb6⟩
            have hB6 := below_then hB5 hB5.size hb6
            have hRp6 := hRp5.below hb6
            have hRl6 := hRl5.below hb6
            clear hRp5 hRl5
            go_wp2_with fail
            refine (HCP.out _ hRp6 hRl6).mono ?_
            rintro e w7 ⟨v7, rfl, hR7, hb7⟩
            have hB7 := below_then hB6 hB6.size hb7
            have hR6' := hR6.below hb7
            clear hRp6 hRl6 hR6
            obtain ⟨A4, c4, rfl, hx1, hx2, hx3⟩ := hR6'.texts2
            obtain ⟨A5, c5, rfl, hy1, hy2, hy3⟩ := hR7.texts2
            have hD9 : D.length ≤ 9223372036854775807 := by omega
            have HX := Lib.hid hx3; clear hx3
            have HY := Lib.hid hy3; clear hy3 hR6' hR7 hx1 hx2 hy1 hy2
            obtain ⟨d, hd⟩ : ∃ d, D.length = d := ⟨_, rfl⟩
            rw [hd] at HX HY hD9 ⊢
            clear hd
            go_wp2
            go_loopw [16, 93] (fun _ s93 wr => ∃ j : Nat, j ≤ d ∧ s93 = .int .i64 j ∧ Below w7.heap.size w7 wr) (fun _ s93 _ => d - (intOf s93).toNat)
            case atStart => exact ⟨0, by omega, rfl, Below.refl _ _⟩
            case round =>
              obtain ⟨j, hj, rfl, hBj⟩ := hrel
              by_cases hlj : j < d
              · obtain ⟨b4, o4, rfl, hz4⟩ := HX.out (by omega)
                obtain ⟨b5, o5, rfl, hz5⟩ := HY.out (by omega)
                have h4 := hz4 j hlj
                have h5 := hz5 j hlj
                have h4' := (hBj.cell (World.block_lt_of_cell? _ _ h4)).trans h4
                have h5' := (hBj.cell (World.block_lt_of_cell? _ _ h5)).trans h5
                clear hz4 hz5 h4 h5
                generalize tl D j = t at *
                go_wp2
                go_quiet (fail)
                go_wp2
                go_roundw
                case rel => exact ⟨j + 1, by omega, by go_num, below_drewN hBj _⟩
                case measure => simp [intOf]; omega
              · obtain rfl : j = d := by omega
                go_wp2
                go_ret
                exact ⟨rfl, below_then hB7 hB7.size hBj⟩
          · have hb : (apE B C != 0) = true := by rw [bne_iff_ne]; exact hf1
            have hb0 : (e1 != 0) = false := by rw [he1]; rfl
            clear hR5 hRl5 hRp5 HL3 he1 hf1
            generalize apE B C = f at *
            go_wp2_with fail
            refine (wakes03 _).mono ?_
            rintro e w6 ⟨rfl, hb6⟩
            have hB6 := below_then hB5 hB5.size hb6
            go_wp2
            go_ret
            exact ⟨rfl, hB6⟩
        · have hb0 : (e1 != 0) = true := by rw [bne_iff_ne]; exact he1
          clear hR5 hRl5 hRp5 HL3 he1
          generalize apE B C = f at *
          go_wp2_with fail
          refine (wakes03 _).mono ?_
          rintro e w6 ⟨rfl, hb6⟩
          have hB6 := below_then hB5 hB5.size hb6
          go_wp2
          go_ret
          exact ⟨rfl, hB6⟩
  · have hrt := hT0.take' 20 (by rw [sv_length]; omega)
    rw [sv_take] at hrt
    have hlt : (T.take 20).length = 20 := by rw [List.length_take]; omega
    generalize T.take 20 = C0 at *
    have HRT := Lib.hid hrt; clear hrt hT hT0
    have hone := Lib.hid (sv_one' C0)
    have hL : (([] : List Value).length + (sv C0).length) * 16 ≤ 140737488355328 := by rw [sv_length, hlt, List.length_nil]; omega
    have HL := Lib.hid hL; clear hL
    have hmn : ¬ ((T.length : Int) ≤ 20) := by omega
    have hmn2 : (20 : Nat) ≤ c1 := by omega
    have HLT := Lib.hid hlt; clear hlt
    generalize T.length = k at *
    go_enter Try.func9, Try.ntmps9
    go_wp2_with fail
    refine (HMUL.out).mono ?_
    rintro e w0 ⟨vp, rfl, hRp, hB0⟩
    have hRT0 := Lib.hid (HRT.out.below hB0)
    have hn0 := Lib.hid (Own.nil_ w0 w0.heap.size 9)
    go_wp2_with (at_builtin; refine append_many w0.heap.size rfl (.const (.slice none 0 0)) (.tmp 27) 42 9 (.string ⟨#[]⟩) 16 rfl Try.underlying42 info9' rfl (by decide) _ _ _ _ rfl rfl hRT0.out hone.out hn0.out (Below.refl _ _) (Nat.le_refl _) HL.out ?_; intro v3 w3 hO3 hB3 _ _; rw [List.nil_append] at hO3; obtain ⟨Al, cl, rfl⟩ := hO3.shape; rw [sv_length, HLT.out] at hO3 ⊢)
    have hMT : MyT w3 w0.heap.size (.slice Al 20 cl) 20 := ⟨C0, HLT.out, hO3⟩
    clear hO3
    go_loopw [9, 31] (fun _ s31 wr => ∃ i : Nat, i ≤ 20 ∧ s31 = .int .i64 i ∧ Hid (MyT wr w0.heap.size (.slice Al 20 cl) 20) ∧ Below w0.heap.size w0 wr) (fun _ s31 _ => 20 - (intOf s31).toNat)
    case atStart => exact ⟨0, by omega, rfl, Lib.hid hMT, hB3⟩
    case round =>
      clear hMT hB3
      obtain ⟨i, hi, rfl, HM, hB⟩ := hrel
      by_cases hlt : i < 20
      · obtain ⟨g, s, rfl, hg1, hg2, hci, hfi, hset⟩ := HM.out.at_ i hlt
        have HSET := Lib.hid hset; clear hset
        by_cases hs40 : s.size ≤ 40
        · have q1 : ¬ ((40 : Int) < (s.size : Int)) := by omega
          have q2 : s.extract 0 s.size = s := ByteArray.extract_zero_size
          have hB2 := hB.setCell (p := ⟨g, i, none⟩) hg1 (.string s)
          go_wp2
          go_region
          go_wp2
          go_roundw
          case rel => exact ⟨i + 1, by omega, by go_num, Lib.hid (HSET.out s).drew, hB2.drew⟩
          case measure => simp [intOf]; omega
        · have q1 : (40 : Int) < (s.size : Int) := by omega
          have q2 : (40 : Int) ≤ (s.size : Int) := by omega
          have hB2 := hB.setCell (p := ⟨g, i, none⟩) hg1 (.string (s.extract 0 40))
          go_wp2
          go_region
          go_wp2
          go_roundw
          case rel => exact ⟨i + 1, by omega, by go_num, Lib.hid (HSET.out (s.extract 0 40)).drew, hB2.drew⟩
          case measure => simp [intOf]; omega
      · obtain rfl : i = 20 := by omega
        obtain ⟨C, hCl, hOC⟩ := HM.out
        have hR := hOC.reads
        have hRp1 := hRp.below hB
        have hBw := below_then hB0 hB0.size hB
        clear hOC HM hRp hB hB0
        have HL3 := Lib.hid (HLAW.out C)
        go_wp2_with fail
        refine (HAPB.out _ hBw _ C hR).mono ?_
        rintro e w4 ⟨v4, rfl, hR4, hb4⟩
        have hB4 := below_then hBw hBw.size hb4
        go_wp2_with fail
        refine (wakes03 _).mono ?_
        rintro e w5 ⟨rfl, hb5⟩
        have hB5 := below_then hB4 hB4.size hb5
        have hR5 := hR4.below hb5
        have hRl5 := (hR.below hb4).below hb5
        have hRp5 := (hRp1.below hb4).below hb5
        clear hR4 hR hRp1 hb4 hb5
        by_cases he1 : e1 = 0
        · by_cases hf1 : apE B C = 0
          · obtain ⟨l0, l1, l2, l3⟩ := HL3.out he1 hf1
            subst he1
            have eB : apT B C = apL B C := by unfold apT; rw [if_pos hf1]
            have eA : apT A (apL B C) = apL A (apL B C) := by unfold apT; rw [if_pos l1]
            have eP : apT P C = apL A (apL B C) := by unfold apT; rw [l0, if_pos l2, l3]
            rw [eB] at hR5
            have hca := HAPA.out w5 hB5 _ _ hR5
            rw [l1, eA] at hca
            have hcp := fun W (h : RMat W vp P) (k : Reads W (.slice Al 20 cl) (sv C)) => apply_any W vp P h _ C k
            rw [show apE P C = 0 by rw [l0]; exact l2, eP] at hcp
            have HCA := Lib.hid hca; clear hca
            have HCP := Lib.hid hcp; clear hcp eB eA eP l0 l1 l2 l3
            rw [hf1]
            clear hf1
            obtain ⟨D, hD⟩ : ∃ D, apL A (apL B C) = D := ⟨_, rfl⟩
            rw [hD] at HCA HCP
            clear hD hR5
            go_wp2_with fail
            refine (HCA.out).mono ?_
            rintro e w6 ⟨v6, rfl, hR6, hb6⟩
            have hB6 := below_then hB5 hB5.size hb6
            have hRp6 := hRp5.below hb6
            have hRl6 := hRl5.below hb6
            clear hRp5 hRl5
            go_wp2_with fail
            refine (HCP.out _ hRp6 hRl6).mono ?_
            rintro e w7 ⟨v7, rfl, hR7, hb7⟩
            have hB7 := below_then hB6 hB6.size hb7
            have hR6' := hR6.below hb7
            clear hRp6 hRl6 hR6
            obtain ⟨A4, c4, rfl, hx1, hx2, hx3⟩ := hR6'.texts2
            obtain ⟨A5, c5, rfl, hy1, hy2, hy3⟩ := hR7.texts2
            have hD9 : D.length ≤ 9223372036854775807 := by omega
            have HX := Lib.hid hx3; clear hx3
            have HY := Lib.hid hy3; clear hy3 hR6' hR7 hx1 hx2 hy1 hy2
            obtain ⟨d, hd⟩ : ∃ d, D.length = d := ⟨_, rfl⟩
            rw [hd] at HX HY hD9 ⊢
            clear hd
            go_wp2
            go_loopw [16, 93] (fun _ s93 wr => ∃ j : Nat, j ≤ d ∧ s93 = .int .i64 j ∧ Below w7.heap.size w7 wr) (fun _ s93 _ => d - (intOf s93).toNat)
            case atStart => exact ⟨0, by omega, rfl, Below.refl _ _⟩
            case round =>
              obtain ⟨j, hj, rfl, hBj⟩ := hrel
              by_cases hlj : j < d
              · obtain ⟨b4, o4, rfl, hz4⟩ := HX.out (by omega)
                obtain ⟨b5, o5, rfl, hz5⟩ := HY.out (by omega)
                have h4 := hz4 j hlj
                have h5 := hz5 j hlj
                have h4' := (hBj.cell (World.block_lt_of_cell? _ _ h4)).trans h4
                have h5' := (hBj.cell (World.block_lt_of_cell? _ _ h5)).trans h5
                clear hz4 hz5 h4 h5
                generalize tl D j = t at *
                go_wp2
                go_quiet (fail)
                go_wp2
                go_roundw
                case rel => exact ⟨j + 1, by omega, by go_num, below_drewN hBj _⟩
                case measure => simp [intOf]; omega
              · obtain rfl : j = d := by omega
                go_wp2
                go_ret
                exact ⟨rfl, below_then hB7 hB7.size hBj⟩
          · have hb : (apE B C != 0) = true := by rw [bne_iff_ne]; exact hf1
            have hb0 : (e1 != 0) = false := by rw [he1]; rfl
            clear hR5 hRl5 hRp5 HL3 he1 hf1
            generalize apE B C = f at *
            go_wp2_with fail
            refine (wakes03 _).mono ?_
            rintro e w6 ⟨rfl, hb6⟩
            have hB6 := below_then hB5 hB5.size hb6
            go_wp2
            go_ret
            exact ⟨rfl, hB6⟩
        · have hb0 : (e1 != 0) = true := by rw [bne_iff_ne]; exact he1
          clear hR5 hRl5 hRp5 HL3 he1
          generalize apE B C = f at *
          go_wp2_with fail
          refine (wakes03 _).mono ?_
          rintro e w6 ⟨rfl, hb6⟩
          have hB6 := below_then hB5 hB5.size hb6
          go_wp2
          go_ret
          exact ⟨rfl, hB6⟩
end Go.Proofs.Ytgphfhpobppmeaa
