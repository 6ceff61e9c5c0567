/-
  The walk of the law MatrixApplies.
-/
import Derived.Test.YtgphfhpobppmeaaTa
import Derived.Test.YtgphfhpobppmeaaRp
import Derived.Test.YtgphfhpobppmeaaAp
namespace Go.Proofs.Ytgphfhpobppmeaa
open Go.RowKit GfM

theorem sv_one' (T : List ByteArray) : ∀ u ∈ sv T, u.oneCell' = true := by
  intro u hu
  simp [sv] at hu
  obtain ⟨_, _, rfl⟩ := hu
  rfl
theorem Reads.take' {w : World} {A : Option Addr} {n c : Nat} {xs : List Value} (h : Reads w (.slice A n c) xs) (k : Nat) (hk : k ≤ xs.length) : Reads w (.slice A k c) (xs.take k) := by
  obtain ⟨A', c', he, h1, h2, h3⟩ := h
  injection he with e1 e2 e3
  subst e1 e3
  have hl : (xs.take k).length = k := by rw [List.length_take]; omega
  refine ⟨A, c, by rw [hl], by omega, h2, fun hp => ?_⟩
  obtain ⟨b, off, rfl, hc⟩ := h3 (by omega)
  refine ⟨b, off, rfl, fun j hj => ?_⟩
  rw [hc j (by omega), List.getElem?_take, if_pos (by omega)]
/-- what the law knows of its own texts. -/
def MyT (w : World) (base : Nat) (v : Value) (K : Nat) : Prop := ∃ C : List ByteArray, C.length = K ∧ Own w base 9 v (sv C)
theorem MyT.at_ {w : World} {base K c : Nat} {A : Option Addr} (h : MyT w base (.slice A K c) K) (i : Nat) (hi : i < K) : ∃ g s, A = some ⟨g, 0, none⟩ ∧ base ≤ g ∧ g < w.heap.size ∧ w.cell? ⟨g, i, none⟩ = some (.string s) ∧ w.frozen? ⟨g, i, none⟩ = false ∧
    ∀ t : ByteArray, MyT (w.setCell ⟨g, i, none⟩ (.string t)) base (.slice A K c) K := by
  obtain ⟨C, hl, hO⟩ := h
  obtain ⟨g, cap, he, hg1, hg2, _⟩ := hO.form (by rw [sv_length, hl]; omega)
  injection he with h1 h2 h3
  subst h1 h3
  have hO' : Own w base 9 (.slice (some ⟨g, 0, none⟩) (sv C).length c) (sv C) := by rw [sv_length, hl]; exact hO
  refine ⟨g, tl C i, rfl, hg1, hg2, ?_, hO'.frozen i, fun t => ⟨C.set i t, by rw [List.length_set]; exact hl, ?_⟩⟩
  · rw [hO'.cell i (by rw [sv_length, hl]; exact hi), sv_at C i (by omega)]
  · have := hO'.set_ i (.string t)
    rw [sv_set, sv_length, hl] at this
    exact this
theorem MyT.drew {w : World} {base K : Nat} {v : Value} (h : MyT w base v K) : MyT w.drew base v K := h

set_option maxRecDepth 100000 in
set_option maxHeartbeats 2000000 in
theorem matrixApplies_walk (w : World) (va : Value) (A : List (List UInt8)) (hA : RMat w va A) (vl : Value) (T : List ByteArray) (hT : Reads w vl (sv T)) (cut : Int) (_ : (Lit.int .i64 cut).wf = true) :
    Calls Try.prog 6 #[va, vl, .int .i64 cut] w fun e w' => e = .returned (.bool true) ∧ Below w.heap.size w w' := by
  have hap := fun W (h : Below w.heap.size w W) v C (hC : Reads W v (sv C)) => apply_any W va A (hA.below h) v C hC
  have hrap := fun W (h : Below w.heap.size w W) v C (hC : Reads W v (sv C)) => rapply_any W va A (hA.below h) v C hC
  have HAP := Lib.hid hap; clear hap
  have HRAP := Lib.hid hrap; clear hrap hA
  have hT0 := hT
  obtain ⟨A1, c1, rfl, hd1, hd2, _⟩ := hT.texts2
  have hn0 := Lib.hid (Own.nil_ w w.heap.size 9)
  by_cases h20 : T.length ≤ 20
  · have hrt := hT0.take' T.length (by rw [sv_length]; omega)
    rw [sv_take] at hrt
    have hlt : (T.take T.length).length = T.length := by rw [List.length_take]; omega
    generalize T.take T.length = C0 at *
    have HRT := Lib.hid hrt; clear hrt hT hT0
    have hone := Lib.hid (sv_one' C0)
    have hL : (([] : List Value).length + (sv C0).length) * 16 ≤ 140737488355328 := by rw [sv_length, hlt, List.length_nil]; omega
    have HL := Lib.hid hL; clear hL
    have HLT0 := Lib.hid hlt; clear hlt
    obtain ⟨k, hk⟩ : ∃ k, T.length = k := ⟨_, rfl⟩
    rw [hk] at h20 hd1 HLT0 HRT ⊢
    clear hk
    have HLT := Lib.hid HLT0.out; clear HLT0
    have hmn : ((k : Int) ≤ 20) := by omega
    go_enter Try.func6, Try.ntmps6
    go_wp2_with (at_builtin; refine append_many w.heap.size rfl (.const (.slice none 0 0)) (.tmp 17) 42 9 (.string ⟨#[]⟩) 16 rfl Try.underlying42 info9' rfl (by decide) _ _ _ _ rfl rfl HRT.out hone.out hn0.out (Below.refl _ _) (Nat.le_refl _) HL.out ?_; intro v3 w3 hO3 hB3 _ _; rw [List.nil_append] at hO3; obtain ⟨Al, cl, rfl⟩ := hO3.shape; rw [sv_length, HLT.out] at hO3 ⊢)
    have hMT : MyT w3 w.heap.size (.slice Al k cl) k := ⟨C0, HLT.out, hO3⟩
    clear hO3
    go_loopw [7, 21] (fun _ s21 wr => ∃ i : Nat, i ≤ k ∧ s21 = .int .i64 i ∧ Hid (MyT wr w.heap.size (.slice Al k cl) k) ∧ Below w.heap.size w wr) (fun _ s21 _ => k - (intOf s21).toNat)
    case atStart => exact ⟨0, by omega, rfl, Lib.hid hMT, hB3⟩
    case round =>
      clear hMT hB3
      obtain ⟨i, hi, rfl, HM, hB⟩ := hrel
      by_cases hlt : i < k
      · obtain ⟨g, s, rfl, hg1, hg2, hci, hfi, hset⟩ := HM.out.at_ i hlt
        have HSET := Lib.hid hset; clear hset
        go_upto_region 5 with fail
        go_cut [] (fun wx => Hid (MyT wx w.heap.size (.slice (some ⟨g, 0, none⟩) k cl) k) ∧ Below w.heap.size w wx)
        case first =>
          by_cases hs60 : s.size ≤ 60
          · have q1 : ¬ ((60 : Int) < (s.size : Int)) := by omega
            have q2 : s.extract 0 s.size = s := ByteArray.extract_zero_size
            have hB2 := hB.setCell (p := ⟨g, i, none⟩) hg1 (.string s)
            go_region
            go_wp2_with fail
            go_meet
            exact ⟨Lib.hid (HSET.out s).drew, hB2.drew⟩
          · have q1 : (60 : Int) < (s.size : Int) := by omega
            have q2 : (60 : Int) ≤ (s.size : Int) := by omega
            have hB2 := hB.setCell (p := ⟨g, i, none⟩) hg1 (.string (s.extract 0 60))
            go_region
            go_wp2_with fail
            go_meet
            exact ⟨Lib.hid (HSET.out (s.extract 0 60)).drew, hB2.drew⟩
        case rest =>
          clear HM hB hci hfi HSET hg2
          obtain ⟨HM, hB⟩ := hcut
          by_cases hcut0 : 0 ≤ cut
          · obtain ⟨u, rfl⟩ : ∃ u : Nat, cut = (u : Int) := ⟨cut.toNat, by omega⟩
            obtain ⟨g', s', hgg, hg1', hg2', hci, hfi, hset⟩ := HM.out.at_ i hlt
            injection hgg with hgg
            injection hgg with hgg
            subst hgg
            have HSET := Lib.hid hset; clear hset
            by_cases hsu : s'.size ≤ u
            · have q1 : ¬ ((u : Int) < (s'.size : Int)) := by omega
              have q2 : s'.extract 0 s'.size = s' := ByteArray.extract_zero_size
              have hB2 := hB.setCell (p := ⟨g, i, none⟩) hg1 (.string s')
              go_wp2
              go_region
              go_wp2
              go_roundw
              case rel => exact ⟨i + 1, by omega, by go_num, Lib.hid (HSET.out s').drew, hB2.drew⟩
              case measure => simp [intOf]; omega
            · have q1 : (u : Int) < (s'.size : Int) := by omega
              have q2 : (u : Int) ≤ (s'.size : Int) := by omega
              have hB2 := hB.setCell (p := ⟨g, i, none⟩) hg1 (.string (s'.extract 0 u))
              go_wp2
              go_region
              go_wp2
              go_roundw
              case rel => exact ⟨i + 1, by omega, by go_num, Lib.hid (HSET.out (s'.extract 0 u)).drew, hB2.drew⟩
              case measure => simp [intOf]; omega
          · have hcut1 : cut < 0 := by omega
            go_wp2
            go_roundw
            case rel => exact ⟨i + 1, by omega, by go_num, HM, hB⟩
            case measure => simp [intOf]; omega
      · obtain rfl : i = k := by omega
        obtain ⟨C, hCl, hOC⟩ := HM.out
        have hR := hOC.reads
        clear hOC HM
        go_wp2_with fail
        refine (HAP.out _ hB _ C hR).mono ?_
        rintro e w4 ⟨v4, rfl, hR4, hb4⟩
        have hB4 := below_then hB hB.size hb4
        go_wp2_with fail
        refine (HRAP.out _ hB4 _ C (hR.below hb4)).mono ?_
        rintro e w5 ⟨v5, rfl, hR5, hb5⟩
        have hB5 := below_then hB4 hB4.size hb5
        have hR4' := hR4.below hb5
        clear hR hR4
        generalize apE A C = E at *
        obtain ⟨A4, c4, rfl, hx1, hx2, hx3⟩ := hR4'.texts2
        obtain ⟨A5, c5, rfl, hy1, hy2, hy3⟩ := hR5.texts2
        have hD9 : (apT A C).length ≤ 9223372036854775807 := by omega
        have HX := Lib.hid hx3; clear hx3
        have HY := Lib.hid hy3; clear hy3 hR4' hR5 hx1 hx2 hy1 hy2
        obtain ⟨D, hD⟩ : ∃ D, apT A C = D := ⟨_, rfl⟩
        rw [hD] at HX HY hD9 ⊢
        clear hD
        obtain ⟨d, hd⟩ : ∃ d, D.length = d := ⟨_, rfl⟩
        rw [hd] at HX HY hD9 ⊢
        clear hd
        go_wp2
        go_loopw [12, 75] (fun _ s75 wr => ∃ j : Nat, j ≤ d ∧ s75 = .int .i64 j ∧ Below w5.heap.size w5 wr) (fun _ s75 _ => d - (intOf s75).toNat)
        case atStart => exact ⟨0, by omega, rfl, Below.refl _ _⟩
        case round =>
          obtain ⟨j, hj, rfl, hBj⟩ := hrel
          by_cases hlj : j < d
          · obtain ⟨b4, o4, rfl, hz4⟩ := HX.out (by omega)
            obtain ⟨b5, o5, rfl, hz5⟩ := HY.out (by omega)
            have h4 := hz4 j hlj
            have h5 := hz5 j hlj
            have h4' := (hBj.cell (World.block_lt_of_cell? _ _ h4)).trans h4
            have h5' := (hBj.cell (World.block_lt_of_cell? _ _ h5)).trans h5
            clear hz4 hz5 h4 h5
            generalize tl D j = t at *
            go_wp2
            go_quiet (fail)
            go_wp2
            go_roundw
            case rel => exact ⟨j + 1, by omega, by go_num, below_drewN hBj _⟩
            case measure => simp [intOf]; omega
          · obtain rfl : j = d := by omega
            go_wp2_with fail
            refine (wakes03 _).mono ?_
            rintro e w6 ⟨rfl, hb6⟩
            have hB6 := below_then (below_then hB5 hB5.size hBj) (Nat.le_trans hB5.size hBj.size) hb6
            go_wp2
            go_ret
            exact ⟨by simp, hB6⟩
  · have hrt := hT0.take' 20 (by rw [sv_length]; omega)
    rw [sv_take] at hrt
    have hlt : (T.take 20).length = 20 := by rw [List.length_take]; omega
    generalize T.take 20 = C0 at *
    have HRT := Lib.hid hrt; clear hrt hT hT0
    have hone := Lib.hid (sv_one' C0)
    have hL : (([] : List Value).length + (sv C0).length) * 16 ≤ 140737488355328 := by rw [sv_length, hlt, List.length_nil]; omega
    have HL := Lib.hid hL; clear hL
    have hmn : ¬ ((T.length : Int) ≤ 20) := by omega
    have hmn2 : (20 : Nat) ≤ c1 := by omega
    have HLT := Lib.hid hlt; clear hlt
    generalize T.length = k at *
    go_enter Try.func6, Try.ntmps6
    go_wp2_with (at_builtin; refine append_many w.heap.size rfl (.const (.slice none 0 0)) (.tmp 17) 42 9 (.string ⟨#[]⟩) 16 rfl Try.underlying42 info9' rfl (by decide) _ _ _ _ rfl rfl HRT.out hone.out hn0.out (Below.refl _ _) (Nat.le_refl _) HL.out ?_; intro v3 w3 hO3 hB3 _ _; rw [List.nil_append] at hO3; obtain ⟨Al, cl, rfl⟩ := hO3.shape; rw [sv_length, HLT.out] at hO3 ⊢)
    have hMT : MyT w3 w.heap.size (.slice Al 20 cl) 20 := ⟨C0, HLT.out, hO3⟩
    clear hO3
    go_loopw [7, 21] (fun _ s21 wr => ∃ i : Nat, i ≤ 20 ∧ s21 = .int .i64 i ∧ Hid (MyT wr w.heap.size (.slice Al 20 cl) 20) ∧ Below w.heap.size w wr) (fun _ s21 _ => 20 - (intOf s21).toNat)
    case atStart => exact ⟨0, by omega, rfl, Lib.hid hMT, hB3⟩
    case round =>
      clear hMT hB3
      obtain ⟨i, hi, rfl, HM, hB⟩ := hrel
      by_cases hlt : i < 20
      · obtain ⟨g, s, rfl, hg1, hg2, hci, hfi, hset⟩ := HM.out.at_ i hlt
        have HSET := Lib.hid hset; clear hset
        go_upto_region 5 with fail
        go_cut [] (fun wx => Hid (MyT wx w.heap.size (.slice (some ⟨g, 0, none⟩) 20 cl) 20) ∧ Below w.heap.size w wx)
        case first =>
          by_cases hs60 : s.size ≤ 60
          · have q1 : ¬ ((60 : Int) < (s.size : Int)) := by omega
            have q2 : s.extract 0 s.size = s := ByteArray.extract_zero_size
            have hB2 := hB.setCell (p := ⟨g, i, none⟩) hg1 (.string s)
            go_region
            go_wp2_with fail
            go_meet
            exact ⟨Lib.hid (HSET.out s).drew, hB2.drew⟩
          · have q1 : (60 : Int) < (s.size : Int) := by omega
            have q2 : (60 : Int) ≤ (s.size : Int) := by omega
            have hB2 := hB.setCell (p := ⟨g, i, none⟩) hg1 (.string (s.extract 0 60))
            go_region
            go_wp2_with fail
            go_meet
            exact ⟨Lib.hid (HSET.out (s.extract 0 60)).drew, hB2.drew⟩
        case rest =>
          clear HM hB hci hfi HSET hg2
          obtain ⟨HM, hB⟩ := hcut
          by_cases hcut0 : 0 ≤ cut
          · obtain ⟨u, rfl⟩ : ∃ u : Nat, cut = (u : Int) := ⟨cut.toNat, by omega⟩
            obtain ⟨g', s', hgg, hg1', hg2', hci, hfi, hset⟩ := HM.out.at_ i hlt
            injection hgg with hgg
            injection hgg with hgg
            subst hgg
            have HSET := Lib.hid hset; clear hset
            by_cases hsu : s'.size ≤ u
            · have q1 : ¬ ((u : Int) < (s'.size : Int)) := by omega
              have q2 : s'.extract 0 s'.size = s' := ByteArray.extract_zero_size
              have hB2 := hB.setCell (p := ⟨g, i, none⟩) hg1 (.string s')
              go_wp2
              go_region
              go_wp2
              go_roundw
              case rel => exact ⟨i + 1, by omega, by go_num, Lib.hid (HSET.out s').drew, hB2.drew⟩
              case measure => simp [intOf]; omega
            · have q1 : (u : Int) < (s'.size : Int) := by omega
              have q2 : (u : Int) ≤ (s'.size : Int) := by omega
              have hB2 := hB.setCell (p := ⟨g, i, none⟩) hg1 (.string (s'.extract 0 u))
              go_wp2
              go_region
              go_wp2
              go_roundw
              case rel => exact ⟨i + 1, by omega, by go_num, Lib.hid (HSET.out (s'.extract 0 u)).drew, hB2.drew⟩
              case measure => simp [intOf]; omega
          · have hcut1 : cut < 0 := by omega
            go_wp2
            go_roundw
            case rel => exact ⟨i + 1, by omega, by go_num, HM, hB⟩
            case measure => simp [intOf]; omega
      · obtain rfl : i = 20 := by omega
        obtain ⟨C, hCl, hOC⟩ := HM.out
        have hR := hOC.reads
        clear hOC HM
        go_wp2_with fail
        refine (HAP.out _ hB _ C hR).mono ?_
        rintro e w4 ⟨v4, rfl, hR4, hb4⟩
        have hB4 := below_then hB hB.size hb4
        go_wp2_with fail
        refine (HRAP.out _ hB4 _ C (hR.below hb4)).mono ?_
        rintro e w5 ⟨v5, rfl, hR5, hb5⟩
        have hB5 := below_then hB4 hB4.size hb5
        have hR4' := hR4.below hb5
        clear hR hR4
        generalize apE A C = E at *
        obtain ⟨A4, c4, rfl, hx1, hx2, hx3⟩ := hR4'.texts2
        obtain ⟨A5, c5, rfl, hy1, hy2, hy3⟩ := hR5.texts2
        have hD9 : (apT A C).length ≤ 9223372036854775807 := by omega
        have HX := Lib.hid hx3; clear hx3
        have HY := Lib.hid hy3; clear hy3 hR4' hR5 hx1 hx2 hy1 hy2
        obtain ⟨D, hD⟩ : ∃ D, apT A C = D := ⟨_, rfl⟩
        rw [hD] at HX HY hD9 ⊢
        clear hD
        obtain ⟨d, hd⟩ : ∃ d, D.length = d := ⟨_, rfl⟩
        rw [hd] at HX HY hD9 ⊢
        clear hd
        go_wp2
        go_loopw [12, 75] (fun _ s75 wr => ∃ j : Nat, j ≤ d ∧ s75 = .int .i64 j ∧ Below w5.heap.size w5 wr) (fun _ s75 _ => d - (intOf s75).toNat)
        case atStart => exact ⟨0, by omega, rfl, Below.refl _ _⟩
        case round =>
          obtain ⟨j, hj, rfl, hBj⟩ := hrel
          by_cases hlj : j < d
          · obtain ⟨b4, o4, rfl, hz4⟩ := HX.out (by omega)
            obtain ⟨b5, o5, rfl, hz5⟩ := HY.out (by omega)
            have h4 := hz4 j hlj
            have h5 := hz5 j hlj
            have h4' := (hBj.cell (World.block_lt_of_cell? _ _ h4)).trans h4
            have h5' := (hBj.cell (World.block_lt_of_cell? _ _ h5)).trans h5
            clear hz4 hz5 h4 h5
            generalize tl D j = t at *
            go_wp2
            go_quiet (fail)
            go_wp2
            go_roundw
            case rel => exact ⟨j + 1, by omega, by go_num, below_drewN hBj _⟩
            case measure => simp [intOf]; omega
          · obtain rfl : j = d := by omega
            go_wp2_with fail
            refine (wakes03 _).mono ?_
            rintro e w6 ⟨rfl, hb6⟩
            have hB6 := below_then (below_then hB5 hB5.size hBj) (Nat.le_trans hB5.size hBj.size) hb6
            go_wp2
            go_ret
            exact ⟨by simp, hB6⟩
end Go.Proofs.Ytgphfhpobppmeaa
