/-
  The walk of the document's Apply.
-/
import Derived.Test.YtgphfhpobppmeaaAw
import Derived.Test.YtgphfhpobppmeaaRk
namespace Go.Proofs.Ytgphfhpobppmeaa
open Go.RowKit GfM

/-- the bytes of row r, the first k places. -/
def apBs (A : List (List UInt8)) (T : List ByteArray) (r k : Nat) : List UInt8 := (List.range k).map fun i => sx T.length (fun c => mul (en A r c) ((tb T c).getD i 0))
theorem apBs_length (A : List (List UInt8)) (T : List ByteArray) (r k : Nat) : (apBs A T r k).length = k := by simp [apBs]
theorem apBs_succ (A : List (List UInt8)) (T : List ByteArray) (r k : Nat) : apBs A T r (k + 1) = apBs A T r k ++ [sx T.length (fun c => mul (en A r c) ((tb T c).getD k 0))] := by simp [apBs, List.range_succ]
theorem apBs_all (A : List (List UInt8)) (T : List ByteArray) (r n : Nat) (h : ∀ j, j < T.length → (tl T j).size = n) : apBs A T r n = apRow A T n r T.length := by
  refine list_ext0 (n := n) (apBs_length A T r n) (apRow_length A T n r _ h) fun k hk => ?_
  rw [apRow_at A T n r _ k h hk]
  simp [apBs, hk]
theorem apL_take (A : List (List UInt8)) (T : List ByteArray) (r : Nat) (h : r < A.length) : (apL A T).take (r + 1) = (apL A T).take r ++ [bs (apRow A T (nn T) r T.length)] := by
  have hl : r < (apL A T).length := by rw [apL_length]; exact h
  rw [List.take_succ_eq_append_getElem hl]
  simp [apL]

set_option maxRecDepth 100000 in
set_option maxHeartbeats 4000000 in
theorem rapply_any (w : World) (va : Value) (A : List (List UInt8)) (hA : RMat w va A) (vl : Value) (T : List ByteArray) (hT : Reads w vl (sv T)) :
    Calls Try.prog 20 #[va, vl] w fun e w' => ∃ v, e = .returned (.tuple #[v, .int .i64 (apE A T)]) ∧ Reads w' v (sv (apT A T)) ∧ Below w.heap.size w w' := by
  obtain ⟨A1, c1, rfl, hd1, hd2, hcellT⟩ := hT.texts2
  have hg := rgood_any w va A hA
  have hnil : ∀ W : World, Reads W (.slice none 0 0) (sv []) := fun W => ⟨none, 0, rfl, by simp [sv], by omega, fun h => absurd h (by simp [sv])⟩
  by_cases gA : goodM A = true
  · obtain ⟨a1, a2, a3, a4, aS⟩ := (good_iff A).1 gA
    obtain ⟨ba, oa, ca, rfl, hca, hba⟩ := hA.at_ (by omega)
    obtain ⟨A0, c0, hc0, _, _⟩ := hA.rowAt 0 (by omega)
    rw [Nat.add_zero] at hc0
    rw [gA] at hg
    have HG := Lib.hid hg; clear hg
    have HNIL := Lib.hid hnil; clear hnil
    by_cases hl : T.length = (A.getD 0 []).length
    · obtain ⟨b2, o2, rfl, hcT⟩ := hcellT (by omega)
      have hcT0 := hcT 0 (by omega)
      rw [Nat.add_zero] at hcT0
      have hbT := World.block_lt_of_cell? w _ hcT0
      rw [← hl] at hc0
      have HCT := Lib.hid hcT
      have hkt0 : 0 < T.length := by omega
      by_cases hev : Evn T
      · have HEV := Lib.hid hev
        -- the loop over the lengths
        by_cases hlong : 65536 < (tl T 0).size
        · have e0 : apE A T = 5 := by unfold apE; rw [if_neg (by rw [gA]; decide), if_neg (by rintro (h | h); exact h hl; exact h hev), if_pos hlong]
          have e1 : apT A T = [] := by unfold apT; rw [if_neg (by rw [e0]; decide)]
          rw [e0, e1]
          clear e0 e1 hcT hcellT hA hT aS hev hl a3 a4
          generalize hs0 : tl T 0 = s0 at *
          have HS0 := Lib.hid hs0; clear hs0
          generalize A.length = n at *
          obtain ⟨k, hkT'⟩ : ∃ k, T.length = k := ⟨_, rfl⟩
          have HKT := Lib.hid hkT'
          rw [hkT'] at hc0 hkt0 hd1 ⊢
          clear hkT'
          have hn0 : (0 : Int) < (n : Int) := by omega
          go_enter Try.func20, Try.ntmps20
          go_wp2_with fail
          refine (HG.out).mono ?_
          rintro e w1 ⟨rfl, hB1⟩
          have hk0 := (hB1.cell (World.block_lt_of_cell? w _ hc0)).trans hc0
          go_wp2
          clear hk0
          go_loopw [7] (fun s7 wr => ∃ i : Nat, i ≤ k ∧ s7 = .int .i64 i ∧ Below w.heap.size w wr) (fun s7 _ => k - (intOf s7).toNat)
          case atStart => exact ⟨0, by omega, rfl, hB1⟩
          case round =>
            obtain ⟨i, hi, rfl, hB⟩ := hrel
            have hkT := (hB.cell hbT).trans hcT0
            by_cases hlt : i < k
            · have hci := HCT.out i (by rw [HKT.out]; exact hlt)
              have hki := (hB.cell (p := ⟨b2, o2 + i, none⟩) hbT).trans hci
              have h2 : (((tl T i).size : Nat) : Int) = (s0.size : Int) := by
                have := HEV.out i (by rw [HKT.out]; exact hlt)
                rw [HS0.out] at this
                omega
              have h3 := bneN_same (a := (tl T i).size) (b := s0.size) (by omega)
              clear hci
              generalize tl T i = si at *
              go_wp2
              go_quiet (fail)
              go_wp2
              go_roundw
              case rel => exact ⟨i + 1, by omega, by go_num, below_drewN hB _⟩
              case measure => simp [intOf]; omega
            · obtain rfl : i = k := by omega
              go_wp2
              go_ret2
              exact ⟨_, rfl, HNIL.out _, hB⟩
        · have hE0 : apE A T = 0 := apE_of gA hl hev (by unfold nn; omega)
          have e1 : apT A T = apL A T := by unfold apT; rw [if_pos hE0]
          rw [hE0, e1]
          have hN : ∀ j, j < T.length → (tl T j).size = nn T := hev
          have hN6 : nn T ≤ 65536 := by unfold nn; omega
          have hela : ∀ r j, r < A.length → j < T.length → ∃ b1 o1 z1, w.cell? ⟨ba, oa + r, none⟩ = some (.slice (some ⟨b1, o1, none⟩) T.length z1) ∧ w.cell? ⟨b1, o1 + j, none⟩ = some (.int .u8 ((en A r j).toNat : Int)) := by
            intro r j hr hj
            have hlr : (A.getD r []).length = T.length := by rw [aS.2 r hr, hl]
            obtain ⟨b1, o1, z1, f1, f2, f3⟩ := hA.el r j hr (by rw [hlr]; exact hj)
            rw [hlr] at f1
            exact ⟨b1, o1, z1, f1, f3⟩
          have HEA := Lib.hid hela; clear hela
          have HBS := Lib.hid (fun r => apBs_all A T r (nn T) hN)
          have HTK := Lib.hid (apL_take A T)
          have HLA := Lib.hid (apL_length A T)
          have HBZ := Lib.hid (fun r k => apBs_succ A T r k)
          have HNS := Lib.hid hN
          have hs0n : (tl T 0).size = nn T := rfl
          clear hE0 e1 hcT hcellT hA hT aS hev hl a3 a4 hlong hN
          generalize hs0 : tl T 0 = s0 at *
          have HS0 := Lib.hid hs0; clear hs0
          obtain ⟨N, hNN⟩ : ∃ N, nn T = N := ⟨_, rfl⟩
          rw [hNN] at hN6 HBS hs0n HNS
          simp only [hNN] at HTK
          clear hNN
          obtain ⟨n, hnA⟩ : ∃ n, A.length = n := ⟨_, rfl⟩
          rw [hnA] at HEA HTK HLA hca a1 a2 HG ⊢
          clear hnA
          obtain ⟨k, hkT'⟩ : ∃ k, T.length = k := ⟨_, rfl⟩
          rw [hkT'] at HEA HBS hc0 hkt0 HNS hd1 ⊢
          simp only [hkT'] at HTK HBZ
          have HKT := Lib.hid hkT'; clear hkT'
          have hn0 : (0 : Int) < (n : Int) := by omega
          have hn65 : ¬ (65536 < (s0.size : Int)) := by omega
          go_enter Try.func20, Try.ntmps20
          go_wp2_with fail
          refine (HG.out).mono ?_
          rintro e w1 ⟨rfl, hB1⟩
          have hk0 := (hB1.cell (World.block_lt_of_cell? w _ hc0)).trans hc0
          go_wp2
          clear hk0
          go_loopw [7] (fun s7 wr => ∃ i : Nat, i ≤ k ∧ s7 = .int .i64 i ∧ Below w.heap.size w wr) (fun s7 _ => k - (intOf s7).toNat)
          case atStart => exact ⟨0, by omega, rfl, hB1⟩
          case round =>
            clear hB1
            obtain ⟨i, hi, rfl, hB⟩ := hrel
            have hkT := (hB.cell hbT).trans hcT0
            by_cases hlt : i < k
            · have hci := HCT.out i (by rw [HKT.out]; exact hlt)
              have hki := (hB.cell (p := ⟨b2, o2 + i, none⟩) hbT).trans hci
              have h3 := bneN_same (a := (tl T i).size) (b := s0.size) (by rw [HNS.out i hlt, hs0n])
              have h4 := HNS.out i hlt
              clear hci
              generalize tl T i = si at *
              go_wp2
              go_quiet (fail)
              go_wp2
              go_roundw
              case rel => exact ⟨i + 1, by omega, by go_num, below_drewN hB _⟩
              case measure => simp [intOf]; omega
            · obtain rfl : i = k := by omega
              go_wp2
              clear hkT
              go_loopw [8, 9, 10, 11, 12, 13, 14] (fun s8 s9 _ _ _ _ _ wr => ∃ r : Nat, r ≤ n ∧ s9 = .int .i64 r ∧ Hid (Own wr w.heap.size 9 s8 (sv ((apL A T).take r))) ∧ Below w.heap.size w wr) (fun _ s9 _ _ _ _ _ _ => n - (intOf s9).toNat)
              case atStart => exact ⟨0, by omega, rfl, Lib.hid (Own.nil_ _ _ _), hB⟩
              case round =>
                clear hB
                obtain ⟨r, hr, rfl, HO, hB⟩ := hrel
                by_cases hlt : r < n
                · obtain ⟨wo, rfl⟩ : ∃ wo : World, wo = wr := ⟨_, rfl⟩
                  go_wp2
                  go_loopw [10, 11, 12, 13, 14] (fun s10 s11 _ _ _ wk => ∃ c : Nat, c ≤ N ∧ s11 = .int .i64 c ∧ Hid (Own wk wo.heap.size 5 s10 (bv (apBs A T r c))) ∧ Below wo.heap.size wo wk) (fun _ s11 _ _ _ _ => N - (intOf s11).toNat)
                  case atStart => exact ⟨0, by omega, rfl, Lib.hid (Own.nil_ _ _ _), Below.refl _ _⟩
                  case round =>
                    obtain ⟨c, hc, rfl, HR, hBi⟩ := hrel
                    have hBk := below_then hB hB.size hBi
                    have hkT := (hBk.cell hbT).trans hcT0
                    by_cases hlc : c < N
                    · obtain ⟨wm, hwm⟩ : ∃ wm : World, wm = wr := ⟨_, rfl⟩
                      have hL : ((bv (apBs A T r c)).length + 1) * 1 ≤ 140737488355328 := by rw [bv_length, apBs_length]; omega
                      have HL := Lib.hid hL; clear hL
                      subst hwm
                      go_wp2
                      clear hkT
                      go_loopw [12, 13, 14] (fun s12 s13 _ wj => ∃ j : Nat, j ≤ i ∧ s13 = .int .i64 j ∧ s12 = .int .u8 ((sx j (fun q => mul (en A r q) ((tb T q).getD c 0))).toNat : Int) ∧ Below wm.heap.size wm wj) (fun _ s13 _ _ => i - (intOf s13).toNat)
                      case atStart => exact ⟨0, by omega, rfl, rfl, Below.refl _ _⟩
                      case round =>
                        obtain ⟨j, hj, rfl, rfl, hBj⟩ := hrel
                        have hBw := below_then hBk hBk.size hBj
                        by_cases hlj : j < i
                        · obtain ⟨x1, y1, z1, f1, f2⟩ := HEA.out r j hlt hlj
                          have g1 := HCT.out j (by rw [HKT.out]; exact hlj)
                          have F1 := (hBw.cell (World.block_lt_of_cell? w _ f1)).trans f1
                          have F2 := (hBw.cell (World.block_lt_of_cell? w _ f2)).trans f2
                          have G1 := (hBw.cell (World.block_lt_of_cell? w _ g1)).trans g1
                          clear f1 f2 g1
                          have L1 := World.block_lt_of_cell? wr _ F1
                          have L2 := World.block_lt_of_cell? wr _ F2
                          have L3 := World.block_lt_of_cell? wr _ G1
                          have hby := byte_at (tl T j) c
                          have hX : (tl T j).data.toList.getD c 0 = (tb T j).getD c 0 := rfl
                          rw [hX] at hby
                          have hsj := HNS.out j hlj
                          have hcs : c < (tl T j).size := by rw [hsj]; exact hlc
                          have HM := Lib.hid (rfl : sx (j + 1) (fun q => mul (en A r q) ((tb T q).getD c 0)) = sx j (fun q => mul (en A r q) ((tb T q).getD c 0)) ^^^ mul (en A r j) ((tb T j).getD c 0))
                          have hc1 : ∀ W, Calls Try.prog 35 #[.int .u8 ((en A r j).toNat : Int), .int .u8 (((tb T j).getD c 0).toNat : Int)] W fun e w' => e = .returned (.int .u8 ((mul (en A r j) ((tb T j).getD c 0)).toNat : Int)) ∧ Below W.heap.size W w' := fun W => rmul_any _ _ _ _ rfl rfl W
                          have hc2 : ∀ W, Calls Try.prog 41 #[.int .u8 ((sx j (fun q => mul (en A r q) ((tb T q).getD c 0))).toNat : Int), .int .u8 ((mul (en A r j) ((tb T j).getD c 0)).toNat : Int)] W fun e w' => e = .returned (.int .u8 ((sx (j + 1) (fun q => mul (en A r q) ((tb T q).getD c 0))).toNat : Int)) ∧ Below W.heap.size W w' := fun W => radd_any _ _ _ _ rfl rfl W
                          clear hX HM
                          generalize hu5 : sx (j + 1) (fun q => mul (en A r q) ((tb T q).getD c 0)) = u5 at *
                          have HU5 := Lib.hid hu5; clear hu5
                          generalize sx j (fun q => mul (en A r q) ((tb T q).getD c 0)) = u3 at *
                          generalize mul (en A r j) ((tb T j).getD c 0) = u4 at *
                          generalize (tb T j).getD c 0 = u1 at *
                          generalize en A r j = u2 at *
                          generalize tl T j = sj at *
                          have HC1 := Lib.hid hc1; clear hc1
                          have HC2 := Lib.hid hc2; clear hc2
                          have i1 : (r : Int) < (n : Int) := by omega
                          have i2 : (j : Int) < (i : Int) := by omega
                          have i3 : (c : Int) < (sj.size : Int) := by omega
                          go_upto_region 24 with fail
                          go_cut [14] (fun s14 wx => s14 = .int .u8 (u4.toNat : Int) ∧ Below wm.heap.size wm wx)
                          case first =>
                            go_region_held3 (fun w' => w'.cell? ⟨ba, oa + r, none⟩ = some (.slice (some ⟨x1, y1, none⟩) i z1) ∧ w'.cell? ⟨x1, y1 + j, none⟩ = some (.int .u8 (u2.toNat : Int)) ∧ w'.cell? ⟨b2, o2 + j, none⟩ = some (.string sj)) (first | assumption | go_keep | exact ⟨t0, t1, t2⟩)
                              (first | (go_at_call 35; refine (HC1.out _).mono ?_; rintro e w5 ⟨rfl, hb5⟩; have t0 := (hb5.cell (p := ⟨ba, oa + r, none⟩) L1).trans F1; have t1 := (hb5.cell (p := ⟨x1, y1 + j, none⟩) L2).trans F2; have t2 := (hb5.cell (p := ⟨b2, o2 + j, none⟩) L3).trans G1))
                            all_goals
                              go_wp2_with fail
                              go_meet
                              exact ⟨rfl, below_then hBj.drew hBj.size hb5⟩
                          case rest =>
                            obtain ⟨rfl, hBx⟩ := hcut
                            clear F1 F2 G1 L1 L2 L3
                            go_wp2_with fail
                            refine (HC2.out _).mono ?_
                            rintro e w6 ⟨rfl, hb6⟩
                            go_wp2
                            go_roundw
                            case rel => exact ⟨j + 1, by omega, by go_num, by rw [HU5.out], below_then hBx hBx.size hb6⟩
                            case measure => simp [intOf]; omega
                        · obtain rfl : j = i := by omega
                          have hO1 := HR.out.below hBj
                          have hBi2 := below_then hBi hBi.size hBj
                          have HT := Lib.hid (HBZ.out r c)
                          have hone : ∀ x : UInt8, bv [x] = [.int .u8 (x.toNat : Int)] := fun x => rfl
                          have HONE := Lib.hid hone; clear hone
                          generalize hx : sx j (fun q => mul (en A r q) ((tb T q).getD c 0)) = x at *
                          have HX := Lib.hid hx; clear hx
                          go_wp2_with (at_builtin; refine append_one wo.heap.size rfl (.tmp 84) (.tmp 86) 37 5 (.int .u8 0) 1 rfl Try.underlying37 info5 rfl (by decide) _ _ (.int .u8 (x.toNat : Int)) rfl rfl rfl hO1 hBi2 hBi2.size HL.out ?_; intro v1 w7 hO7 hB7 _ _)
                          go_roundw
                          case rel => exact ⟨c + 1, by omega, by go_num, Lib.hid (by rw [HT.out, bv_append, HONE.out]; exact hO7), hB7⟩
                          case measure => simp [intOf]; omega
                    · obtain rfl : c = N := by omega
                      have hy := HR.out
                      have hcv := reads_string (P := Try.prog) (src := 37) (dst := 9) Try.underlying37 Try.underlying5 Try.underlying9 hy.reads
                      have hst := HTK.out r hlt
                      rw [HBS.out r] at hcv
                      have hL : ((sv ((apL A T).take r)).length + 1) * 16 ≤ 140737488355328 := by rw [sv_length, List.length_take, HLA.out]; omega
                      have HL := Lib.hid hL; clear hL
                      have HST := Lib.hid hst; clear hst
                      have HO2 := Lib.hid (HO.out.below hBi)
                      have hone : ∀ s : ByteArray, sv [s] = [.string s] := fun s => rfl
                      have HONE := Lib.hid hone; clear hone hy
                      generalize bs (apRow A T c r i) = z at *
                      go_wp2_with (at_builtin; refine append_one w.heap.size rfl (.tmp 88) (.tmp 91) 42 9 (.string ⟨#[]⟩) 16 rfl Try.underlying42 info9' rfl (by decide) _ _ (.string z) rfl rfl rfl HO2.out hBk hBk.size HL.out ?_; intro v4 w8 hO8 hB8 _ _)
                      go_roundw
                      case rel => exact ⟨r + 1, by omega, by go_num, Lib.hid (by rw [HST.out, sv_append, HONE.out]; exact hO8), hB8⟩
                      case measure => simp [intOf]; omega
                · obtain rfl : r = n := by omega
                  have hR := HO.out.reads
                  rw [List.take_of_length_le (by rw [HLA.out]; omega)] at hR
                  go_wp2
                  go_ret2
                  exact ⟨_, rfl, hR, hB⟩
      · have e0 : apE A T = 7 := by unfold apE; rw [if_neg (by rw [gA]; decide), if_pos (.inr hev)]
        have e1 : apT A T = [] := by unfold apT; rw [if_neg (by rw [e0]; decide)]
        rw [e0, e1]
        obtain ⟨q, hq, hne, hlow⟩ := odd_first hev
        have hcq := hcT q hq
        have h3 := bneN hne
        have HLOW := Lib.hid hlow
        clear e0 e1 hcT hcellT hA hT aS hev hl a3 a4 hlow hne
        generalize hs0 : tl T 0 = s0 at *
        have HS0 := Lib.hid hs0; clear hs0
        generalize hsq : tl T q = sq at *
        clear hsq
        generalize A.length = n at *
        obtain ⟨k, hkT'⟩ : ∃ k, T.length = k := ⟨_, rfl⟩
        have HKT := Lib.hid hkT'
        rw [hkT'] at hc0 hkt0 hq hd1 ⊢
        clear hkT'
        have hn0 : (0 : Int) < (n : Int) := by omega
        go_enter Try.func20, Try.ntmps20
        go_wp2_with fail
        refine (HG.out).mono ?_
        rintro e w1 ⟨rfl, hB1⟩
        have hk0 := (hB1.cell (World.block_lt_of_cell? w _ hc0)).trans hc0
        go_wp2
        clear hk0
        go_loopw [7] (fun s7 wr => ∃ i : Nat, i ≤ q ∧ s7 = .int .i64 i ∧ Below w.heap.size w wr) (fun s7 _ => q - (intOf s7).toNat)
        case atStart => exact ⟨0, by omega, rfl, hB1⟩
        case round =>
          obtain ⟨i, hi, rfl, hB⟩ := hrel
          have hkT := (hB.cell hbT).trans hcT0
          by_cases hlt : i < q
          · have hci := HCT.out i (by rw [HKT.out]; omega)
            have hki := (hB.cell (p := ⟨b2, o2 + i, none⟩) hbT).trans hci
            have h2 := HLOW.out i hlt
            have h4 := bneN_same (a := (tl T i).size) (b := s0.size) h2
            clear hci
            generalize tl T i = si at *
            go_wp2
            go_quiet (fail)
            go_wp2
            go_roundw
            case rel => exact ⟨i + 1, by omega, by go_num, below_drewN hB _⟩
            case measure => simp [intOf]; omega
          · obtain rfl : i = q := by omega
            have hki := (hB.cell (p := ⟨b2, o2 + i, none⟩) hbT).trans hcq
            go_wp2
            go_quiet (fail)
            go_wp2
            go_ret2
            exact ⟨_, rfl, HNIL.out _, below_drewN hB _⟩
    · have e0 : apE A T = 7 := by unfold apE; rw [if_neg (by rw [gA]; decide), if_pos (.inl hl)]
      have e1 : apT A T = [] := by unfold apT; rw [if_neg (by rw [e0]; decide)]
      rw [e0, e1]
      have hb := bneN hl
      clear e0 e1 hcellT hA hT aS hl
      generalize (A.getD 0 []).length = q at *
      generalize A.length = n at *
      generalize T.length = k at *
      have hn0 : (0 : Int) < (n : Int) := by omega
      go_enter Try.func20, Try.ntmps20
      go_wp2_with fail
      refine (HG.out).mono ?_
      rintro e w1 ⟨rfl, hB1⟩
      have hk0 := (hB1.cell (World.block_lt_of_cell? w _ hc0)).trans hc0
      go_wp2
      go_ret2
      exact ⟨_, rfl, HNIL.out _, hB1⟩
  · have e0 : apE A T = 4 := by unfold apE; rw [if_pos (by simpa using gA)]
    have e1 : apT A T = [] := by unfold apT; rw [if_neg (by rw [e0]; decide)]
    rw [e0, e1]
    have gA' : goodM A = false := by simpa using gA
    rw [gA'] at hg
    have HG := Lib.hid hg; clear hg gA gA' e0 e1 hcellT hT
    have HNIL := Lib.hid hnil; clear hnil
    generalize T.length = k at *
    go_enter Try.func20, Try.ntmps20
    go_wp2_with fail
    refine (HG.out).mono ?_
    rintro e w1 ⟨rfl, hB1⟩
    go_wp2
    go_ret2
    exact ⟨_, rfl, HNIL.out _, hB1⟩
end Go.Proofs.Ytgphfhpobppmeaa
