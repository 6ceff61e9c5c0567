/-
  The walk of the document's Mul, and of the law MatrixMuls.
-/
import Derived.Test.YtgphfhpobppmeaaRp
namespace Go.Proofs.Ytgphfhpobppmeaa
open Go.RowKit GfM

theorem mulM_take (A B : List (List UInt8)) (r : Nat) (h : r < A.length) : (mulM A B).take (r + 1) = (mulM A B).take r ++ [(List.range (B.getD 0 []).length).map fun c => mm B.length (en A) (en B) r c] := by
  rw [take_rows _ _ (by rw [mulM_length]; exact h), mulM_row A B r h]
theorem mm_succ (k : Nat) (A B : Nat → Nat → UInt8) (r c : Nat) : mm (k + 1) A B r c = mm k A B r c ^^^ mul (A r k) (B k c) := rfl
theorem mm_zero (A B : Nat → Nat → UInt8) (r c : Nat) : mm 0 A B r c = 0 := rfl

set_option maxRecDepth 100000 in
set_option maxHeartbeats 4000000 in
theorem rmulm_any (w : World) (va vb : Value) (A B : List (List UInt8)) (hA : RMat w va A) (hB : RMat w vb B) :
    Calls Try.prog 18 #[va, vb] w fun e w' => ∃ v, e = .returned (.tuple #[v, .int .i64 (mulOut A B).2]) ∧ RMat w' v (mulOut A B).1 ∧ Below w.heap.size w w' := by
  have hgA := fun W (h : Below w.heap.size w W) => rgood_any W va A (hA.below h)
  have hgB := fun W (h : Below w.heap.size w W) => rgood_any W vb B (hB.below h)
  by_cases gg : goodM A = true ∧ goodM B = true
  · obtain ⟨gA, gB⟩ := gg
    rw [gA] at hgA
    rw [gB] at hgB
    have HGA := Lib.hid hgA; clear hgA
    have HGB := Lib.hid hgB; clear hgB
    obtain ⟨a1, a2, a3, a4, aS⟩ := (good_iff A).1 gA
    obtain ⟨b1, b2, b3, b4, bS⟩ := (good_iff B).1 gB
    obtain ⟨ba, oa, ca, rfl, hca, hba⟩ := hA.at_ (by omega)
    obtain ⟨bb, ob, cb, rfl, hcb, hbb⟩ := hB.at_ (by omega)
    obtain ⟨A0, c0, hc0, _, _⟩ := hA.rowAt 0 (by omega)
    obtain ⟨B0, d0, hd0, _, _⟩ := hB.rowAt 0 (by omega)
    rw [Nat.add_zero] at hc0 hd0
    by_cases hd : (A.getD 0 []).length = B.length
    · have e : mulOut A B = (mulM A B, 0) := by unfold mulOut; rw [if_neg (by rw [gA, gB]; decide), if_neg (by simpa using hd)]
      rw [e]
      have hela : ∀ r j, r < A.length → j < B.length → ∃ b1 o1 z1, w.cell? ⟨ba, oa + r, none⟩ = some (.slice (some ⟨b1, o1, none⟩) B.length z1) ∧ w.cell? ⟨b1, o1 + j, none⟩ = some (.int .u8 ((en A r j).toNat : Int)) := by
        intro r j hr hj
        have hlr : (A.getD r []).length = B.length := by rw [aS.2 r hr, hd]
        obtain ⟨b1, o1, z1, f1, f2, f3⟩ := hA.el r j hr (by rw [hlr]; exact hj)
        rw [hlr] at f1
        exact ⟨b1, o1, z1, f1, f3⟩
      have helb : ∀ j c, j < B.length → c < (B.getD 0 []).length → ∃ b1 o1 z1, w.cell? ⟨bb, ob + j, none⟩ = some (.slice (some ⟨b1, o1, none⟩) (B.getD 0 []).length z1) ∧ w.cell? ⟨b1, o1 + c, none⟩ = some (.int .u8 ((en B j c).toNat : Int)) := by
        intro j c hj hc
        have hlr : (B.getD j []).length = (B.getD 0 []).length := bS.2 j hj
        obtain ⟨b1, o1, z1, f1, f2, f3⟩ := hB.el j c hj (by rw [hlr]; exact hc)
        rw [hlr] at f1
        exact ⟨b1, o1, z1, f1, f3⟩
      have HEA := Lib.hid hela; clear hela
      have HEB := Lib.hid helb; clear helb
      have HTK := Lib.hid (mulM_take A B)
      have HLM := Lib.hid (mulM_length A B)
      rw [hd] at hc0
      clear e gA gB aS bS hd a3 a4 hA hB
      generalize hq : (B.getD 0 []).length = q at *
      generalize hn : A.length = n at *
      generalize hp : B.length = p at *
      clear hq
      have HN := Lib.hid hn; clear hn
      have HP := Lib.hid hp; clear hp
      have hn0 : (0 : Int) < (n : Int) := by omega
      have hp0 : (0 : Int) < (p : Int) := by omega
      go_enter Try.func18, Try.ntmps18
      go_wp2_with fail
      refine (HGA.out _ (Below.refl _ _)).mono ?_
      rintro e w1 ⟨rfl, hb1⟩
      go_wp2_with fail
      refine (HGB.out _ hb1).mono ?_
      rintro e w2 ⟨rfl, hb2⟩
      have hB2 := below_then hb1 hb1.size hb2
      have hka := (hB2.cell (World.block_lt_of_cell? w _ hc0)).trans hc0
      have hkb := (hB2.cell (World.block_lt_of_cell? w _ hd0)).trans hd0
      go_wp2
      clear hka hkb
      go_loopw [8, 9, 10, 11, 12, 13, 14] (fun s8 s9 _ _ _ _ _ wr => ∃ r : Nat, r ≤ n ∧ s9 = .int .i64 r ∧ Hid (ORows wr w.heap.size s8 ((mulM A B).take r)) ∧ Below w.heap.size w wr) (fun _ s9 _ _ _ _ _ _ => n - (intOf s9).toNat)
      case atStart => exact ⟨0, by omega, rfl, Lib.hid (by rw [List.take_zero]; exact ORows.nil_ _ _), hB2⟩
      case round =>
        clear hB2 hb1 hb2
        obtain ⟨r, hr, rfl, HO, hB⟩ := hrel
        by_cases hlt : r < n
        · obtain ⟨wo, rfl⟩ : ∃ wo : World, wo = wr := ⟨_, rfl⟩
          go_wp2
          go_loopw [10, 11, 12, 13, 14] (fun s10 s11 _ _ _ wk => ∃ c : Nat, c ≤ q ∧ s11 = .int .i64 c ∧ Hid (Own wk wo.heap.size 5 s10 (bv (((List.range q).map fun c => mm p (en A) (en B) r c).take c))) ∧ Below wo.heap.size wo wk) (fun _ s11 _ _ _ _ => q - (intOf s11).toNat)
          case atStart => exact ⟨0, by omega, rfl, Lib.hid (Own.nil_ _ _ _), Below.refl _ _⟩
          case round =>
            obtain ⟨c, hc, rfl, HR, hBi⟩ := hrel
            have hBk := below_then hB hB.size hBi
            have hkb := (hBk.cell (World.block_lt_of_cell? w _ hd0)).trans hd0
            by_cases hlc : c < q
            · obtain ⟨wm, hwm⟩ : ∃ wm : World, wm = wr := ⟨_, rfl⟩
              have HT := Lib.hid (take_map_range (fun c => mm p (en A) (en B) r c) q c hlc)
              have hL : ((bv (((List.range q).map fun c => mm p (en A) (en B) r c).take c)).length + 1) * 1 ≤ 140737488355328 := by rw [bv_length, List.length_take]; simp; omega
              have HL := Lib.hid hL; clear hL
              subst hwm
              go_wp2
              clear hkb
              go_loopw [12, 13, 14] (fun s12 s13 _ wj => ∃ j : Nat, j ≤ p ∧ s13 = .int .i64 j ∧ s12 = .int .u8 ((mm j (en A) (en B) r c).toNat : Int) ∧ Below wm.heap.size wm wj) (fun _ s13 _ _ => p - (intOf s13).toNat)
              case atStart => exact ⟨0, by omega, rfl, by rw [mm_zero]; rfl, Below.refl _ _⟩
              case round =>
                obtain ⟨j, hj, rfl, rfl, hBj⟩ := hrel
                have hBw := below_then hBk hBk.size hBj
                by_cases hlj : j < p
                · obtain ⟨x1, y1, z1, f1, f2⟩ := HEA.out r j hlt hlj
                  obtain ⟨x2, y2, z2, g1, g2⟩ := HEB.out j c hlj hlc
                  have F1 := (hBw.cell (World.block_lt_of_cell? w _ f1)).trans f1
                  have F2 := (hBw.cell (World.block_lt_of_cell? w _ f2)).trans f2
                  have G1 := (hBw.cell (World.block_lt_of_cell? w _ g1)).trans g1
                  have G2 := (hBw.cell (World.block_lt_of_cell? w _ g2)).trans g2
                  clear f1 f2 g1 g2
                  have L1 := World.block_lt_of_cell? wr _ F1
                  have L2 := World.block_lt_of_cell? wr _ F2
                  have L3 := World.block_lt_of_cell? wr _ G1
                  have L4 := World.block_lt_of_cell? wr _ G2
                  have HM := Lib.hid (mm_succ j (en A) (en B) r c)
                  have hc1 : ∀ W, Calls Try.prog 35 #[.int .u8 ((en A r j).toNat : Int), .int .u8 ((en B j c).toNat : Int)] W fun e w' => e = .returned (.int .u8 ((mul (en A r j) (en B j c)).toNat : Int)) ∧ Below W.heap.size W w' := fun W => rmul_any _ _ _ _ rfl rfl W
                  have hc2 : ∀ W, Calls Try.prog 41 #[.int .u8 ((mm j (en A) (en B) r c).toNat : Int), .int .u8 ((mul (en A r j) (en B j c)).toNat : Int)] W fun e w' => e = .returned (.int .u8 ((mm j (en A) (en B) r c ^^^ mul (en A r j) (en B j c)).toNat : Int)) ∧ Below W.heap.size W w' := fun W => radd_any _ _ _ _ rfl rfl W
                  generalize mm j (en A) (en B) r c ^^^ mul (en A r j) (en B j c) = u5 at *
                  generalize mul (en A r j) (en B j c) = u4 at *
                  generalize mm j (en A) (en B) r c = u3 at *
                  generalize en A r j = u2 at *
                  generalize en B j c = u1 at *
                  have HC1 := Lib.hid hc1; clear hc1
                  have HC2 := Lib.hid hc2; clear hc2
                  have i1 : (r : Int) < (n : Int) := by omega
                  have i2 : (j : Int) < (p : Int) := by omega
                  have i3 : (c : Int) < (q : Int) := by omega
                  go_upto_region 18 with fail
                  go_cut [14] (fun s14 wx => s14 = .int .u8 (u4.toNat : Int) ∧ Below wm.heap.size wm wx)
                  case first =>
                    go_region_held3 (fun w' => w'.cell? ⟨ba, oa + r, none⟩ = some (.slice (some ⟨x1, y1, none⟩) p z1) ∧ w'.cell? ⟨x1, y1 + j, none⟩ = some (.int .u8 (u2.toNat : Int)) ∧ w'.cell? ⟨bb, ob + j, none⟩ = some (.slice (some ⟨x2, y2, none⟩) q z2) ∧ w'.cell? ⟨x2, y2 + c, none⟩ = some (.int .u8 (u1.toNat : Int))) (first | assumption | go_keep | exact ⟨t0, t1, t2, t3⟩)
                      (first | (go_at_call 35; refine (HC1.out _).mono ?_; rintro e w5 ⟨rfl, hb5⟩; have t0 := (hb5.cell (p := ⟨ba, oa + r, none⟩) L1).trans F1; have t1 := (hb5.cell (p := ⟨x1, y1 + j, none⟩) L2).trans F2; have t2 := (hb5.cell (p := ⟨bb, ob + j, none⟩) L3).trans G1; have t3 := (hb5.cell (p := ⟨x2, y2 + c, none⟩) L4).trans G2))
                    all_goals
                      go_wp2_with fail
                      go_meet
                      exact ⟨rfl, below_then hBj.drew hBj.size hb5⟩
                  case rest =>
                    obtain ⟨rfl, hBx⟩ := hcut
                    clear F1 F2 G1 G2 L1 L2 L3 L4
                    go_wp2_with fail
                    refine (HC2.out _).mono ?_
                    rintro e w6 ⟨rfl, hb6⟩
                    go_wp2
                    go_roundw
                    case rel => exact ⟨j + 1, by omega, by go_num, by rw [HM.out], below_then hBx hBx.size hb6⟩
                    case measure => simp [intOf]; omega
                · obtain rfl : j = p := by omega
                  have hO1 := HR.out.below hBj
                  have hBi2 := below_then hBi hBi.size hBj
                  have hone : bv [mm j (en A) (en B) r c] = [.int .u8 ((mm j (en A) (en B) r c).toNat : Int)] := rfl
                  have HONE := Lib.hid hone; clear hone
                  have HT' := Lib.hid HT.out
                  generalize hx : mm j (en A) (en B) r c = x at *
                  have HX := Lib.hid hx; clear hx
                  go_wp2_with (at_builtin; refine append_one wo.heap.size rfl (.tmp 70) (.tmp 72) 37 5 (.int .u8 0) 1 rfl Try.underlying37 info5 rfl (by decide) _ _ (.int .u8 (x.toNat : Int)) rfl rfl rfl hO1 hBi2 hBi2.size HL.out ?_; intro v1 w7 hO7 hB7 _ _)
                  go_roundw
                  case rel => exact ⟨c + 1, by omega, by go_num, Lib.hid (by rw [HT.out, bv_append, HONE.out]; exact hO7), hB7⟩
                  case measure => simp [intOf]; omega
            · obtain rfl : c = q := by omega
              obtain ⟨vs, v1, v2, v3⟩ := HO.out
              have hy := HR.out
              rw [List.take_of_length_le (by simp)] at hy
              obtain ⟨Ay, cy, rfl⟩ := hy.shape
              have hL : (vs.length + 1) * 24 ≤ 140737488355328 := by rw [v1, List.length_take, HLM.out]; omega
              have HL := Lib.hid hL; clear hL
              have HY := Lib.hid hy; clear hy
              have H1 := Lib.hid v1; clear v1
              have H2 := Lib.hid v2; clear v2
              have H3 := Lib.hid v3; clear v3
              have HV2 := Lib.hid (H2.out.below hBi)
              have HTR := Lib.hid (HTK.out r hlt)
              go_wp2_with (at_builtin; refine append_one w.heap.size rfl (.tmp 74) (.tmp 76) 22 37 (.slice none 0 0) 24 rfl Try.underlying22 infoB rfl (by decide) _ vs (.slice Ay _ cy) rfl rfl rfl HV2.out hBk hBk.size HL.out ?_; intro v4 w8 hO8 hB8 hg8 _
                           have hOR := ORows.push_row H1.out H2.out H3.out hBi hB.size HY.out hg8 hO8
                           rw [← HTR.out] at hOR)
              go_roundw
              case rel => exact ⟨r + 1, by omega, by go_num, Lib.hid hOR, hB8⟩
              case measure => simp [intOf]; omega
        · obtain rfl : r = n := by omega
          have hr := HO.out.reads
          rw [List.take_of_length_le (by rw [HLM.out]; omega)] at hr
          go_wp2
          go_ret2
          exact ⟨_, rfl, hr, hB⟩
    · have e : mulOut A B = ([], 7) := by unfold mulOut; rw [if_neg (by rw [gA, gB]; decide), if_pos hd]
      rw [e]
      have hb := bneN hd
      clear e gA gB aS bS hd hA hB
      generalize (B.getD 0 []).length = q at *
      generalize (A.getD 0 []).length = pa at *
      generalize A.length = n at *
      generalize B.length = p at *
      have hn0 : (0 : Int) < (n : Int) := by omega
      go_enter Try.func18, Try.ntmps18
      go_wp2_with fail
      refine (HGA.out _ (Below.refl _ _)).mono ?_
      rintro e w1 ⟨rfl, hb1⟩
      go_wp2_with fail
      refine (HGB.out _ hb1).mono ?_
      rintro e w2 ⟨rfl, hb2⟩
      have hB2 := below_then hb1 hb1.size hb2
      have hka := (hB2.cell (World.block_lt_of_cell? w _ hc0)).trans hc0
      go_wp2
      go_ret2
      exact ⟨_, rfl, RMat.nil_ _, hB2⟩
  · have e : mulOut A B = ([], 4) := by
      unfold mulOut
      rw [if_pos]
      by_cases h : goodM A = true
      · exact .inr (by simpa using fun h2 => gg ⟨h, h2⟩)
      · exact .inl (by simpa using h)
    rw [e]
    have HGA := Lib.hid hgA; clear hgA
    have HGB := Lib.hid hgB; clear hgB
    have hcase : goodM A = false ∨ (goodM A = true ∧ goodM B = false) := by
      by_cases h : goodM A = true
      · exact .inr ⟨h, by simpa using fun h2 => gg ⟨h, h2⟩⟩
      · exact .inl (by simpa using h)
    clear e gg hA hB
    generalize goodM A = gA at *
    generalize goodM B = gB at *
    rcases hcase with rfl | ⟨rfl, rfl⟩
    · go_enter Try.func18, Try.ntmps18
      go_wp2_with fail
      refine (HGA.out _ (Below.refl _ _)).mono ?_
      rintro e w1 ⟨rfl, hb1⟩
      go_wp2_with fail
      refine (HGB.out _ hb1).mono ?_
      rintro e w2 ⟨rfl, hb2⟩
      have hB2 := below_then hb1 hb1.size hb2
      go_wp2
      go_ret2
      exact ⟨_, rfl, RMat.nil_ _, hB2⟩
    · go_enter Try.func18, Try.ntmps18
      go_wp2_with fail
      refine (HGA.out _ (Below.refl _ _)).mono ?_
      rintro e w1 ⟨rfl, hb1⟩
      go_wp2_with fail
      refine (HGB.out _ hb1).mono ?_
      rintro e w2 ⟨rfl, hb2⟩
      have hB2 := below_then hb1 hb1.size hb2
      go_wp2
      go_ret2
      exact ⟨_, rfl, RMat.nil_ _, hB2⟩

set_option maxRecDepth 100000 in
set_option maxHeartbeats 1000000 in
theorem matrixMuls_walk (w : World) (va : Value) (A : List (List UInt8)) (hA : RMat w va A) (vb : Value) (B : List (List UInt8)) (hB : RMat w vb B) :
    Calls Try.prog 5 #[va, vb] w fun e w' => e = .returned (.bool true) ∧ Below w.heap.size w w' := by
  have h1 := mulm_any w va vb A B hA hB
  have h2 := fun W (h : Below w.heap.size w W) => rmulm_any W va vb A B (hA.below h) (hB.below h)
  generalize (mulOut A B).2 = e1 at *
  generalize (mulOut A B).1 = X at *
  have H1 := Lib.hid h1; clear h1
  have H2 := Lib.hid h2; clear h2 hA hB
  go_enter Try.func5, Try.ntmps5
  go_wp2_with fail
  refine (H1.out).mono ?_
  rintro e w1 ⟨vc, rfl, hRc, hB1⟩
  go_wp2_with fail
  refine (H2.out _ hB1).mono ?_
  rintro e w2 ⟨vd, rfl, hRd, hb2⟩
  have hB2 := below_then hB1 hB1.size hb2
  have hRc2 := hRc.below hb2
  go_wp2_with fail
  refine (wakes03 _).mono ?_
  rintro e w3 ⟨rfl, hb3⟩
  have hB3 := below_then hB2 hB2.size hb3
  have hs := same_self w3 vc vd X (hRc2.below hb3) (hRd.below hb3)
  have HS := Lib.hid hs; clear hs
  go_wp2_with fail
  refine (HS.out).mono ?_
  rintro e w4 ⟨rfl, hb4⟩
  have hB4 := below_then hB3 hB3.size hb4
  go_wp2
  go_ret
  exact ⟨rfl, hB4⟩
end Go.Proofs.Ytgphfhpobppmeaa
